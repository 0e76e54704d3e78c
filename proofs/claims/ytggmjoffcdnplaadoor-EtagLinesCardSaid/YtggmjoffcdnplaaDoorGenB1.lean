/- A part of the proof of laws of the seat: written by program over the translation. -/
import Derived.Test.YtggmjoffcdnplaaDoorPureB
import Derived.Test.YtggmjoffcdnplaaDoorProg
import Derived.Test.YtggmjoffcdnplaaDoorShelf
namespace Go.Proofs
open Go.Eng Go.Eng.Pure
set_option linter.unusedVariables false
theorem lay3 : lay Tryd.prog 3 = some (false, 1) := by kernel_rfl
theorem zer54 : zer Tryd.prog 54 = some [(int 0), (int 0), (int 0), (int 0), (int 0)] := by kernel_rfl
theorem inf3 : ∃ i, Tryd.prog.info? 3 = some i := Option.isSome_iff_exists.1 (by kernel_rfl)
theorem el55 : Elem Tryd.prog 55 3 1 := elem_of (by kernel_rfl)
theorem lay54 : lay Tryd.prog 54 = some (true, 5) := by kernel_rfl
theorem zer68 : zer Tryd.prog 68 = some (List.replicate 256 (boo false)) := by kernel_rfl
theorem lay68 : lay Tryd.prog 68 = some (true, 256) := by kernel_rfl
theorem el57 : Elem Tryd.prog 57 5 1 := elem_of (by kernel_rfl)
theorem fld36_0 : fld Tryd.prog 36 0 = some 0 := by kernel_rfl
theorem lay9 : lay Tryd.prog 9 = some (false, 1) := by kernel_rfl
theorem fld36_1 : fld Tryd.prog 36 1 = some 1 := by kernel_rfl
theorem el28 : Elem Tryd.prog 28 36 2 := elem_of (by kernel_rfl)
theorem lay5 : lay Tryd.prog 5 = some (false, 1) := by kernel_rfl
theorem lay36 : lay Tryd.prog 36 = some (true, 2) := by kernel_rfl
theorem zer36 : zer Tryd.prog 36 = some [(str []), (str [])] := by kernel_rfl
theorem el31 : Elem Tryd.prog 31 9 1 := elem_of (by kernel_rfl)
theorem bp36 : bplaces Tryd.prog 36 = some [(0, 1), (1, 1)] := by kernel_rfl
theorem fld45_1 : fld Tryd.prog 45 1 = some 1 := by kernel_rfl
theorem fld45_0 : fld Tryd.prog 45 0 = some 0 := by kernel_rfl
theorem lay4 : lay Tryd.prog 4 = some (false, 1) := by kernel_rfl
theorem bp45 : bplaces Tryd.prog 45 = some [(0, 1), (1, 1)] := by kernel_rfl
theorem zer45 : zer Tryd.prog 45 = some [(boo false), (str [])] := by kernel_rfl
theorem lay45 : lay Tryd.prog 45 = some (true, 2) := by kernel_rfl
theorem el47 : Elem Tryd.prog 47 45 2 := elem_of (by kernel_rfl)
theorem ps45 : plainS Tryd.prog 45 = true := by kernel_rfl
theorem fk45 : fieldK Tryd.prog 45 = [some 1, some 2] := by kernel_rfl
theorem strings_Join_ok {w0 : World} {H0 : Hp} (hw : Holds w0 H0) (p_l : List Str) (p_s : Str) {vl : Value} (R : Sl (α := Str) H0 vl p_l) {r : Str} (h : strings_Join p_l p_s = some r) :
    Con Tryd.prog 47 [vl, (str p_s)] w0 H0 (fun H' v => v = (str r)) :=
  joinCon Tryd.func47 rfl (by kernel_rfl) hw R h Tryd.strings_Join_none Tryd.strings_Join
theorem strings_makeASCIISet_ok {w0 : World} {H0 : Hp} (hw : Holds w0 H0) (p_s : Str) {r : Unit} (h : strings_makeASCIISet p_s = some r) :
    Con Tryd.prog 56 [(str p_s)] w0 H0 (fun H' v => v = (.tuple ⟨[(.agg (Lib.setCells p_s)), (boo true)]⟩)) :=
  mkSetCon Tryd.func56 rfl (by kernel_rfl) hw h (Tryd.strings_makeASCIISet (fun w => (Tryd.zeroValue68 w).trans (by kernel_rfl)))
theorem strings_asciiSet_contains_ok {w0 : World} {H0 : Hp} (hw : Holds w0 H0) (p_as : Str) (p_c : UInt8) {b : Nat} (hA : At H0 ⟨b, 0, none⟩ (setc p_as)) {r : Bool} (h : strings_asciiSet_contains p_as p_c = some r) :
    Con Tryd.prog 71 [(ptr b 0), (byt p_c)] w0 H0 (fun H' v => v = (boo r)) :=
  inSetCon Tryd.func71 rfl (by kernel_rfl) hw hA h Tryd.asciiSet_contains
theorem strings_IndexByte_ok {w0 : World} {H0 : Hp} (hw : Holds w0 H0) (p_s : Str) (p_c : UInt8) {r : Int} (h : strings_IndexByte p_s p_c = some r) :
    Con Tryd.prog 89 [(str p_s), (byt p_c)] w0 H0 (fun H' v => v = (int r)) :=
  ixByteCon Tryd.func89 rfl (by kernel_rfl) hw h Tryd.strings_IndexByte
theorem stringslite_IndexByte_ok {w0 : World} {H0 : Hp} (hw : Holds w0 H0) (p_s : Str) (p_c : UInt8) {r : Int} (h : strings_IndexByte p_s p_c = some r) :
    Con Tryd.prog 93 [(str p_s), (byt p_c)] w0 H0 (fun H' v => v = (int r)) :=
  ixByteCon Tryd.func93 rfl (by kernel_rfl) hw h Tryd.stringslite_IndexByte

set_option maxHeartbeats 4000000 in
theorem qvalue_Parse_ok {w0 : World} {H0 : Hp} (hw : Holds w0 H0) (p_ppend : Str) {r : (Int × Bool)} (h : qvalue_Parse p_ppend = some r) :
    Con Tryd.prog 12 [(str p_ppend)] w0 H0 (fun H' v => v = (.tuple ⟨[(int r.1), (boo r.2)]⟩)) := by
  refine Con.mk (N := 70) Tryd.func12 rfl rfl (by kernel_rfl) rfl ?_
  have S := St.start hw
  refine WP.seq ?_
  refine WP.region ?_
  refine WL.valw (R.as (v := (int 0)) rfl) ?_
  refine WL.valw (R.as (v := (boo false)) rfl) ?_
  refine WL.nil ?_
  refine WP.seq ?_
  refine WP.seq ?_
  refine WP.region ?_
  refine WL.valw (R.mv (v := (str p_ppend)) rfl) ?_
  refine WL.valw (R.eqlS (a := p_ppend) (b := []) rfl rfl) ?_
  refine WL.valw (R.mv (v := (boo (p_ppend == []))) rfl) ?_
  refine WL.grp 4 [11, 12, 13] 14 (boo ((p_ppend == []) || (decide (5 < (p_ppend.length : Int))))) ?_ ?_
  · rcases boolE (p_ppend == []) with hb1 | hb1
    · refine WL.gno rfl rfl hb1 ?_
      refine WL.gno rfl rfl hb1 ?_
      refine WL.gno rfl rfl hb1 ?_
      refine WL.valw (R.pickT rfl hb1 rfl) ?_
      exact WL.nil ⟨(orT hb1), (by repeat (first | refine agree_upd rfl ?_ | refine agree_upds' rfl ?_ | exact agree_refl)), rfl⟩
    · refine WL.gyes rfl rfl hb1 ?_
      refine WL.valw (R.mv (v := (str p_ppend)) rfl) ?_
      refine WL.gyes rfl rfl hb1 ?_
      refine WL.valw (R.lenS (a := p_ppend) rfl Tryd.underlying9) ?_
      refine WL.gyes rfl rfl hb1 ?_
      refine WL.valw (R.gtr rfl rfl) ?_
      refine WL.valw (R.pickF rfl hb1 rfl) ?_
      exact WL.nil ⟨(orF hb1), (by repeat (first | refine agree_upd rfl ?_ | refine agree_upds' rfl ?_ | exact agree_refl)), rfl⟩
  · intro us
    refine WL.valw (R.mv (v := (boo ((p_ppend == []) || (decide (5 < (p_ppend.length : Int)))))) rfl) ?_
    obtain ⟨b10, hg4, h⟩ := bindE h
    refine WL.grp 9 [16, 17, 18, 19, 20, 21, 22, 23] 24 (boo b10) ?_ ?_
    · rcases boolE ((p_ppend == []) || (decide (5 < (p_ppend.length : Int)))) with hb3 | hb3
      · replace hg4 := condT hg4 hb3
        refine WL.gno rfl rfl hb3 ?_
        refine WL.gno rfl rfl hb3 ?_
        refine WL.gno rfl rfl hb3 ?_
        refine WL.gno rfl rfl hb3 ?_
        refine WL.gund rfl rfl ?_
        refine WL.gund rfl rfl ?_
        refine WL.gund rfl rfl ?_
        refine WL.gno rfl rfl hb3 ?_
        refine WL.valw (R.pickT rfl hb3 rfl) ?_
        exact WL.nil ⟨(congrArg boo (Option.some.inj hg4)), (by repeat (first | refine agree_upd rfl ?_ | refine agree_upds' rfl ?_ | exact agree_refl)), rfl⟩
      · replace hg4 := condF hg4 hb3
        refine WL.gyes rfl rfl hb3 ?_
        refine WL.valw (R.mv (v := (str p_ppend)) rfl) ?_
        refine WL.gyes rfl rfl hb3 ?_
        obtain ⟨c5, hc5, hg4⟩ := bindE hg4
        refine WL.valw (R.idxS rfl rfl Tryd.underlying9 hc5) ?_
        refine WL.gyes rfl rfl hb3 ?_
        refine WL.valw (R.neq8 (a := c5) (b := 48) rfl rfl) ?_
        refine WL.gyes rfl rfl hb3 ?_
        refine WL.valw (R.mv (v := (boo (c5 != 48))) rfl) ?_
        obtain ⟨b9, hg7, hg4⟩ := bindE hg4
        refine WL.grp 4 [20, 21, 22] 23 (boo b9) ?_ ?_
        · rcases boolE (c5 != 48) with hb6 | hb6
          · replace hg7 := condT hg7 hb6
            refine WL.gyes rfl rfl hb6 ?_
            refine WL.valw (R.mv (v := (str p_ppend)) rfl) ?_
            refine WL.gyes rfl rfl hb6 ?_
            obtain ⟨c8, hc8, hg7⟩ := bindE hg7
            refine WL.valw (R.idxS rfl rfl Tryd.underlying9 hc8) ?_
            refine WL.gyes rfl rfl hb6 ?_
            refine WL.valw (R.neq8 (a := c8) (b := 49) rfl rfl) ?_
            refine WL.gyes rfl rfl hb3 ?_
            refine WL.valw (R.pickT rfl hb6 rfl) ?_
            exact WL.nil ⟨(congrArg boo (Option.some.inj hg7)), (by repeat (first | refine agree_upd rfl ?_ | refine agree_upds' rfl ?_ | exact agree_refl)), rfl⟩
          · replace hg7 := condF hg7 hb6
            refine WL.gno rfl rfl hb6 ?_
            refine WL.gno rfl rfl hb6 ?_
            refine WL.gno rfl rfl hb6 ?_
            refine WL.gyes rfl rfl hb3 ?_
            refine WL.valw (R.pickF rfl hb6 rfl) ?_
            exact WL.nil ⟨(congrArg boo (Option.some.inj hg7)), (by repeat (first | refine agree_upd rfl ?_ | refine agree_upds' rfl ?_ | exact agree_refl)), rfl⟩
        · intro us
          refine WL.valw (R.pickF rfl hb3 rfl) ?_
          exact WL.nil ⟨(congrArg boo (Option.some.inj hg4)), (by repeat (first | refine agree_upd rfl ?_ | refine agree_upds' rfl ?_ | exact agree_refl)), rfl⟩
    · intro us
      refine WL.valw (R.mv (v := (boo b10)) rfl) ?_
      obtain ⟨b17, hg12, h⟩ := bindE h
      refine WL.grp 9 [26, 27, 28, 29, 30, 31, 32, 33] 34 (boo b17) ?_ ?_
      · rcases boolE b10 with hb11 | hb11
        · replace hg12 := condT hg12 hb11
          refine WL.gno rfl rfl hb11 ?_
          refine WL.gno rfl rfl hb11 ?_
          refine WL.gno rfl rfl hb11 ?_
          refine WL.gno rfl rfl hb11 ?_
          refine WL.gund rfl rfl ?_
          refine WL.gund rfl rfl ?_
          refine WL.gund rfl rfl ?_
          refine WL.gno rfl rfl hb11 ?_
          refine WL.valw (R.pickT rfl hb11 rfl) ?_
          exact WL.nil ⟨(congrArg boo (Option.some.inj hg12)), (by repeat (first | refine agree_upd rfl ?_ | refine agree_upds' rfl ?_ | exact agree_refl)), rfl⟩
        · replace hg12 := condF hg12 hb11
          refine WL.gyes rfl rfl hb11 ?_
          refine WL.valw (R.mv (v := (str p_ppend)) rfl) ?_
          refine WL.gyes rfl rfl hb11 ?_
          refine WL.valw (R.lenS (a := p_ppend) rfl Tryd.underlying9) ?_
          refine WL.gyes rfl rfl hb11 ?_
          refine WL.valw (R.gtr rfl rfl) ?_
          refine WL.gyes rfl rfl hb11 ?_
          refine WL.valw (R.mv (v := (boo (decide (1 < (p_ppend.length : Int))))) rfl) ?_
          obtain ⟨b16, hg14, hg12⟩ := bindE hg12
          refine WL.grp 4 [30, 31, 32] 33 (boo b16) ?_ ?_
          · rcases boolE (decide (1 < (p_ppend.length : Int))) with hb13 | hb13
            · replace hg14 := condT hg14 hb13
              refine WL.gyes rfl rfl hb13 ?_
              refine WL.valw (R.mv (v := (str p_ppend)) rfl) ?_
              refine WL.gyes rfl rfl hb13 ?_
              obtain ⟨c15, hc15, hg14⟩ := bindE hg14
              refine WL.valw (R.idxS rfl rfl Tryd.underlying9 hc15) ?_
              refine WL.gyes rfl rfl hb13 ?_
              refine WL.valw (R.neq8 (a := c15) (b := 46) rfl rfl) ?_
              refine WL.gyes rfl rfl hb11 ?_
              refine WL.valw (R.pickT rfl hb13 rfl) ?_
              exact WL.nil ⟨(congrArg boo (Option.some.inj hg14)), (by repeat (first | refine agree_upd rfl ?_ | refine agree_upds' rfl ?_ | exact agree_refl)), rfl⟩
            · replace hg14 := condF hg14 hb13
              refine WL.gno rfl rfl hb13 ?_
              refine WL.gno rfl rfl hb13 ?_
              refine WL.gno rfl rfl hb13 ?_
              refine WL.gyes rfl rfl hb11 ?_
              refine WL.valw (R.pickF rfl hb13 rfl) ?_
              exact WL.nil ⟨(congrArg boo (Option.some.inj hg14)), (by repeat (first | refine agree_upd rfl ?_ | refine agree_upds' rfl ?_ | exact agree_refl)), rfl⟩
          · intro us
            refine WL.valw (R.pickF rfl hb11 rfl) ?_
            exact WL.nil ⟨(congrArg boo (Option.some.inj hg12)), (by repeat (first | refine agree_upd rfl ?_ | refine agree_upds' rfl ?_ | exact agree_refl)), rfl⟩
      · intro us
        refine WL.nil ?_
        rcases condE h with ⟨hc18, h⟩ | ⟨hc18, h⟩
        · refine WP.condT rfl hc18 ?_
          refine WP.seq ?_
          refine WP.region ?_
          refine WL.valw (R.as (v := (int 0)) rfl) ?_
          refine WL.valw (R.as (v := (boo false)) rfl) ?_
          refine WL.nil ?_
          obtain rfl := Option.some.inj h
          refine WP.ret (Out.two rfl S rfl rfl ?_)
          exact rfl
        · refine WP.condF rfl hc18 ?_
          refine WP.skip ?_
          refine WP.seq ?_
          refine WP.region ?_
          refine WL.valw (R.buildArr [(0, (int 1000)), (1, (int 0)), (2, (int 100)), (3, (int 10)), (4, (int 1))] [(int 1000), (int 0), (int 100), (int 10), (int 1)] Tryd.underlying54 lay3 zer54 rfl rfl) ?_
          refine W.alloc [(int 0), (int 0), (int 0), (int 0), (int 0)] S zer54 ?_
          intro b19 w20 S
          refine W.store (i := 0) [(int 1000), (int 0), (int 100), (int 10), (int 1)] S rfl rfl rfl lay54 rfl rfl (Nat.le_of_ble_eq_true rfl) rfl ?_
          intro w21 S
          refine WL.nil ?_
          refine WP.seq ?_
          refine WP.region ?_
          refine WL.valw (R.as (v := (int 0)) rfl) ?_
          refine WL.nil ?_
          refine WP.seq ?_
          refine WP.seq ?_
          refine WP.region ?_
          refine WL.valw (R.mv (v := (str p_ppend)) rfl) ?_
          refine WL.valw (R.lenS (a := p_ppend) rfl Tryd.underlying9) ?_
          obtain ⟨H22, hle23, hs24, _, S⟩ := S.settle (i := 0) rfl
          replace S : St w0 H0 _ H22 [] := S
          have hA25 : At H22 ⟨b19, 0, none⟩ [(int 1000), (int 0), (int 100), (int 10), (int 1)] := ⟨_, _, rfl, hs24, [], by simp⟩
          obtain ⟨l26, hl26, h⟩ := bindE h
          refine W.arrHi (α := Int) hA25 (Cells.ints (xs := ([1000, 0, 100, 10, 1] : List Int))) rfl rfl Tryd.underlying54 inf3 rfl (by decide) hl26 ?_
          intro v27 R28
          refine WL.valw (R.lenL (α := Int) (xs := l26) (H := H22) R28 rfl Tryd.underlying55) ?_
          refine WL.valw (R.mv (v := (int 0)) rfl) ?_
          refine WL.nil ?_
          obtain ⟨r43, hr44, h⟩ := bindE h
          refine WP.cut (fun f w => match r43 with | .inl y_38 => ∃ (H37 : Hp), f 5 = (int y_38) ∧ St w0 H0 w H37 [] | .inr _ => False) ?_ ?_
          · refine WP.block ?_
            refine WP.loopM (qvalue_Parse_L0 p_ppend l26) (fun s f w => match s with | (y_31, y_35) => ∃ (H29 : Hp), f 0 = (str p_ppend) ∧ f 5 = (int y_31) ∧ f 38 = v27 ∧ f 39 = (int (l26.length : Int)) ∧ f 40 = (int y_35) ∧ Sl (α := Int) H29 v27 l26 ∧ St w0 H0 w H29 []) (0, 0) r43 hr44 ?_ ?_
            · exact ⟨H22, rfl, rfl, rfl, rfl, rfl, R28, S⟩
            · intro s f w hI y40 hy41 hy42
              obtain ⟨y_31, y_35⟩ := s
              obtain ⟨H29, h30, h32, h33, h34, h36, R28, S⟩ := hI
              refine WP.seq ?_
              refine WP.region ?_
              refine WL.valw (R.lss h36 h34) ?_
              refine WL.nil ?_
              refine WP.seq ?_
              rcases condE hy41 with ⟨hc45, hy41⟩ | ⟨hc45, hy41⟩
              · refine WP.condT rfl hc45 ?_
                refine WP.skip ?_
                refine WP.seq ?_
                refine WP.block ?_
                refine WP.seq ?_
                refine WP.region ?_
                refine WL.valw (R.mv (v := (int y_35)) h36) ?_
                obtain ⟨x46, hx46, hy41⟩ := bindE hy41
                refine W.idx (α := Int) R28 h33 h36 el55 hx46 ?_
                rintro a47 _ hA48 rfl
                refine WL.valw (R.loadH (v := (int x46)) S rfl hA48 lay3 rfl) ?_
                refine WL.valw (R.as (v := (int y_35)) rfl) ?_
                refine WL.valw (R.as (v := (int x46)) rfl) ?_
                refine WL.nil ?_
                refine WP.seq ?_
                refine WP.seq ?_
                refine WP.region ?_
                refine WL.valw (R.mv (v := (int y_35)) rfl) ?_
                refine WL.valw (R.eql rfl rfl) ?_
                refine WL.nil ?_
                rcases condE hy41 with ⟨hc49, hy41⟩ | ⟨hc49, hy41⟩
                · refine WP.condT rfl hc49 ?_
                  refine WP.exit ?_
                  refine WP.region ?_
                  refine WL.valw (R.add h36 rfl) ?_
                  refine WL.valw (R.mv (v := (int (wr (y_35 + 1)))) rfl) ?_
                  refine WL.nil ?_
                  obtain rfl := Option.some.inj hy41
                  exact ⟨rfl, ⟨H29, h30, h32, h33, h34, rfl, R28, S⟩⟩
                · refine WP.condF rfl hc49 ?_
                  refine WP.skip ?_
                  refine WP.seq ?_
                  refine WP.seq ?_
                  refine WP.region ?_
                  refine WL.valw (R.mv (v := (str p_ppend)) h30) ?_
                  refine WL.valw (R.mv (v := (int y_35)) rfl) ?_
                  obtain ⟨c50, hc50, hy41⟩ := bindE hy41
                  refine WL.valw (R.idxS rfl rfl Tryd.underlying9 hc50) ?_
                  refine WL.valw (R.lss8 (a := c50) (b := 48) rfl rfl) ?_
                  refine WL.valw (R.mv (v := (boo (decide (c50 < 48)))) rfl) ?_
                  obtain ⟨b54, hg52, hy41⟩ := bindE hy41
                  refine WL.grp 5 [52, 53, 54, 55] 56 (boo b54) ?_ ?_
                  · rcases boolE (decide (c50 < 48)) with hb51 | hb51
                    · replace hg52 := condT hg52 hb51
                      refine WL.gno rfl rfl hb51 ?_
                      refine WL.gno rfl rfl hb51 ?_
                      refine WL.gno rfl rfl hb51 ?_
                      refine WL.gno rfl rfl hb51 ?_
                      refine WL.valw (R.pickT rfl hb51 rfl) ?_
                      exact WL.nil ⟨(congrArg boo (Option.some.inj hg52)), (by repeat (first | refine agree_upd rfl ?_ | refine agree_upds' rfl ?_ | exact agree_refl)), rfl⟩
                    · replace hg52 := condF hg52 hb51
                      refine WL.gyes rfl rfl hb51 ?_
                      refine WL.valw (R.mv (v := (str p_ppend)) h30) ?_
                      refine WL.gyes rfl rfl hb51 ?_
                      refine WL.valw (R.mv (v := (int y_35)) rfl) ?_
                      refine WL.gyes rfl rfl hb51 ?_
                      obtain ⟨c53, hc53, hg52⟩ := bindE hg52
                      refine WL.valw (R.idxS rfl rfl Tryd.underlying9 hc53) ?_
                      refine WL.gyes rfl rfl hb51 ?_
                      refine WL.valw (R.gtr8 (a := c53) (b := 57) rfl rfl) ?_
                      refine WL.valw (R.pickF rfl hb51 rfl) ?_
                      exact WL.nil ⟨(congrArg boo (Option.some.inj hg52)), (by repeat (first | refine agree_upd rfl ?_ | refine agree_upds' rfl ?_ | exact agree_refl)), rfl⟩
                  · intro us
                    refine WL.nil ?_
                    rcases condE hy41 with ⟨hc55, hy41⟩ | ⟨hc55, hy41⟩
                    · refine WP.condT rfl hc55 ?_
                      refine WP.seq ?_
                      refine WP.region ?_
                      refine WL.valw (R.as (v := (int 0)) rfl) ?_
                      refine WL.valw (R.as (v := (boo false)) rfl) ?_
                      refine WL.nil ?_
                      obtain rfl := Option.some.inj hy41
                      obtain rfl := hy42
                      obtain rfl := Option.some.inj h
                      refine WP.ret (Out.two rfl S rfl rfl ?_)
                      exact rfl
                    · refine WP.condF rfl hc55 ?_
                      refine WP.skip ?_
                      refine WP.region ?_
                      refine WL.valw (R.mv (v := (int y_31)) h32) ?_
                      refine WL.valw (R.mv (v := (int x46)) rfl) ?_
                      refine WL.valw (R.mv (v := (str p_ppend)) h30) ?_
                      refine WL.valw (R.mv (v := (int y_35)) rfl) ?_
                      obtain ⟨c56, hc56, hy41⟩ := bindE hy41
                      refine WL.valw (R.idxS rfl rfl Tryd.underlying9 hc56) ?_
                      refine WL.valw (R.sub8 (a := c56) (b := 48) rfl rfl) ?_
                      refine WL.valw (R.i64of8 (a := c56 - 48) rfl Tryd.underlying5 Tryd.underlying3) ?_
                      refine WL.valw (R.mul rfl rfl) ?_
                      refine WL.valw (R.add rfl rfl) ?_
                      refine WL.valw (R.as (v := (int (wr (y_31 + (wr (x46 * ((c56 - 48).toNat : Int))))))) rfl) ?_
                      refine WL.nil ?_
                      refine WP.region ?_
                      refine WL.valw (R.add h36 rfl) ?_
                      refine WL.valw (R.mv (v := (int (wr (y_35 + 1)))) rfl) ?_
                      refine WL.nil ?_
                      obtain rfl := Option.some.inj hy41
                      exact ⟨rfl, ⟨H29, h30, rfl, h33, h34, rfl, R28, S⟩⟩
              · refine WP.condF rfl hc45 ?_
                refine WP.exit ?_
                obtain rfl := Option.some.inj hy41
                obtain rfl := hy42
                exact ⟨H29, h32, S⟩
          · intro f w hM
            rcases r43 with y_38 | e
            · obtain ⟨H37, h39, S⟩ := hM
              refine WP.seq ?_
              refine WP.seq ?_
              refine WP.region ?_
              refine WL.valw (R.mv (v := (int y_38)) h39) ?_
              refine WL.valw (R.gtr rfl rfl) ?_
              refine WL.nil ?_
              rcases condE h with ⟨hc57, h⟩ | ⟨hc57, h⟩
              · refine WP.condT rfl hc57 ?_
                refine WP.seq ?_
                refine WP.region ?_
                refine WL.valw (R.as (v := (int 0)) rfl) ?_
                refine WL.valw (R.as (v := (boo false)) rfl) ?_
                refine WL.nil ?_
                obtain rfl := Option.some.inj h
                refine WP.ret (Out.two rfl S rfl rfl ?_)
                exact rfl
              · refine WP.condF rfl hc57 ?_
                refine WP.skip ?_
                refine WP.seq ?_
                refine WP.region ?_
                refine WL.valw (R.mv (v := (int y_38)) h39) ?_
                refine WL.valw (R.as (v := (int y_38)) rfl) ?_
                refine WL.valw (R.as (v := (boo true)) rfl) ?_
                refine WL.nil ?_
                obtain rfl := Option.some.inj h
                refine WP.ret (Out.two rfl S rfl rfl ?_)
                exact rfl
            · exact hM.elim
set_option maxHeartbeats 4000000 in
theorem ref01_Digit_ok {w0 : World} {H0 : Hp} (hw : Holds w0 H0) (p_c : UInt8) {r : Bool} (h : ref01_Digit p_c = some r) :
    Con Tryd.prog 37 [(byt p_c)] w0 H0 (fun H' v => v = (boo r)) := by
  refine Con.mk (N := 9) Tryd.func37 rfl rfl (by kernel_rfl) rfl ?_
  have S := St.start hw
  refine WP.seq ?_
  refine WP.region ?_
  refine WL.valw (R.as (v := (boo false)) rfl) ?_
  refine WL.nil ?_
  refine WP.seq ?_
  refine WP.region ?_
  refine WL.valw (R.mv (v := (byt p_c)) rfl) ?_
  refine WL.valw (R.geq8 (a := p_c) (b := 48) rfl rfl) ?_
  refine WL.valw (R.mv (v := (boo (decide (48 ≤ p_c)))) rfl) ?_
  refine WL.grp 3 [6, 7] 8 (boo ((decide (48 ≤ p_c)) && (decide (p_c ≤ 57)))) ?_ ?_
  · rcases boolE (decide (48 ≤ p_c)) with hb1 | hb1
    · refine WL.gyes rfl rfl hb1 ?_
      refine WL.valw (R.mv (v := (byt p_c)) rfl) ?_
      refine WL.gyes rfl rfl hb1 ?_
      refine WL.valw (R.leq8 (a := p_c) (b := 57) rfl rfl) ?_
      refine WL.valw (R.pickT rfl hb1 rfl) ?_
      exact WL.nil ⟨(andT hb1), (by repeat (first | refine agree_upd rfl ?_ | refine agree_upds' rfl ?_ | exact agree_refl)), rfl⟩
    · refine WL.gno rfl rfl hb1 ?_
      refine WL.gno rfl rfl hb1 ?_
      refine WL.valw (R.pickF rfl hb1 rfl) ?_
      exact WL.nil ⟨(andF hb1), (by repeat (first | refine agree_upd rfl ?_ | refine agree_upds' rfl ?_ | exact agree_refl)), rfl⟩
  · intro us
    refine WL.valw (R.as (v := (boo ((decide (48 ≤ p_c)) && (decide (p_c ≤ 57))))) rfl) ?_
    refine WL.nil ?_
    obtain rfl := Option.some.inj h
    refine WP.ret (Out.one rfl S rfl ?_)
    exact rfl
set_option maxHeartbeats 4000000 in
theorem ref01_ParseQ_ok {w0 : World} {H0 : Hp} (hw : Holds w0 H0) (p_ppend : Str) {r : (Int × Bool)} (h : ref01_ParseQ p_ppend = some r) :
    Con Tryd.prog 13 [(str p_ppend)] w0 H0 (fun H' v => v = (.tuple ⟨[(int r.1), (boo r.2)]⟩)) := by
  refine Con.mk (N := 65) Tryd.func13 rfl rfl (by kernel_rfl) rfl ?_
  have S := St.start hw
  refine WP.seq ?_
  refine WP.region ?_
  refine WL.valw (R.as (v := (int 0)) rfl) ?_
  refine WL.valw (R.as (v := (boo false)) rfl) ?_
  refine WL.nil ?_
  refine WP.seq ?_
  refine WP.seq ?_
  refine WP.region ?_
  refine WL.valw (R.mv (v := (str p_ppend)) rfl) ?_
  refine WL.valw (R.lenS (a := p_ppend) rfl Tryd.underlying9) ?_
  refine WL.valw (R.lss rfl rfl) ?_
  refine WL.valw (R.mv (v := (boo (decide ((p_ppend.length : Int) < 1)))) rfl) ?_
  refine WL.grp 4 [11, 12, 13] 14 (boo ((decide ((p_ppend.length : Int) < 1)) || (decide (5 < (p_ppend.length : Int))))) ?_ ?_
  · rcases boolE (decide ((p_ppend.length : Int) < 1)) with hb1 | hb1
    · refine WL.gno rfl rfl hb1 ?_
      refine WL.gno rfl rfl hb1 ?_
      refine WL.gno rfl rfl hb1 ?_
      refine WL.valw (R.pickT rfl hb1 rfl) ?_
      exact WL.nil ⟨(orT hb1), (by repeat (first | refine agree_upd rfl ?_ | refine agree_upds' rfl ?_ | exact agree_refl)), rfl⟩
    · refine WL.gyes rfl rfl hb1 ?_
      refine WL.valw (R.mv (v := (str p_ppend)) rfl) ?_
      refine WL.gyes rfl rfl hb1 ?_
      refine WL.valw (R.lenS (a := p_ppend) rfl Tryd.underlying9) ?_
      refine WL.gyes rfl rfl hb1 ?_
      refine WL.valw (R.gtr rfl rfl) ?_
      refine WL.valw (R.pickF rfl hb1 rfl) ?_
      exact WL.nil ⟨(orF hb1), (by repeat (first | refine agree_upd rfl ?_ | refine agree_upds' rfl ?_ | exact agree_refl)), rfl⟩
  · intro us
    refine WL.valw (R.mv (v := (boo ((decide ((p_ppend.length : Int) < 1)) || (decide (5 < (p_ppend.length : Int)))))) rfl) ?_
    obtain ⟨b10, hg4, h⟩ := bindE h
    refine WL.grp 9 [16, 17, 18, 19, 20, 21, 22, 23] 24 (boo b10) ?_ ?_
    · rcases boolE ((decide ((p_ppend.length : Int) < 1)) || (decide (5 < (p_ppend.length : Int)))) with hb3 | hb3
      · replace hg4 := condT hg4 hb3
        refine WL.gno rfl rfl hb3 ?_
        refine WL.gno rfl rfl hb3 ?_
        refine WL.gno rfl rfl hb3 ?_
        refine WL.gno rfl rfl hb3 ?_
        refine WL.gund rfl rfl ?_
        refine WL.gund rfl rfl ?_
        refine WL.gund rfl rfl ?_
        refine WL.gno rfl rfl hb3 ?_
        refine WL.valw (R.pickT rfl hb3 rfl) ?_
        exact WL.nil ⟨(congrArg boo (Option.some.inj hg4)), (by repeat (first | refine agree_upd rfl ?_ | refine agree_upds' rfl ?_ | exact agree_refl)), rfl⟩
      · replace hg4 := condF hg4 hb3
        refine WL.gyes rfl rfl hb3 ?_
        refine WL.valw (R.mv (v := (str p_ppend)) rfl) ?_
        refine WL.gyes rfl rfl hb3 ?_
        obtain ⟨c5, hc5, hg4⟩ := bindE hg4
        refine WL.valw (R.idxS rfl rfl Tryd.underlying9 hc5) ?_
        refine WL.gyes rfl rfl hb3 ?_
        refine WL.valw (R.neq8 (a := c5) (b := 48) rfl rfl) ?_
        refine WL.gyes rfl rfl hb3 ?_
        refine WL.valw (R.mv (v := (boo (c5 != 48))) rfl) ?_
        obtain ⟨b9, hg7, hg4⟩ := bindE hg4
        refine WL.grp 4 [20, 21, 22] 23 (boo b9) ?_ ?_
        · rcases boolE (c5 != 48) with hb6 | hb6
          · replace hg7 := condT hg7 hb6
            refine WL.gyes rfl rfl hb6 ?_
            refine WL.valw (R.mv (v := (str p_ppend)) rfl) ?_
            refine WL.gyes rfl rfl hb6 ?_
            obtain ⟨c8, hc8, hg7⟩ := bindE hg7
            refine WL.valw (R.idxS rfl rfl Tryd.underlying9 hc8) ?_
            refine WL.gyes rfl rfl hb6 ?_
            refine WL.valw (R.neq8 (a := c8) (b := 49) rfl rfl) ?_
            refine WL.gyes rfl rfl hb3 ?_
            refine WL.valw (R.pickT rfl hb6 rfl) ?_
            exact WL.nil ⟨(congrArg boo (Option.some.inj hg7)), (by repeat (first | refine agree_upd rfl ?_ | refine agree_upds' rfl ?_ | exact agree_refl)), rfl⟩
          · replace hg7 := condF hg7 hb6
            refine WL.gno rfl rfl hb6 ?_
            refine WL.gno rfl rfl hb6 ?_
            refine WL.gno rfl rfl hb6 ?_
            refine WL.gyes rfl rfl hb3 ?_
            refine WL.valw (R.pickF rfl hb6 rfl) ?_
            exact WL.nil ⟨(congrArg boo (Option.some.inj hg7)), (by repeat (first | refine agree_upd rfl ?_ | refine agree_upds' rfl ?_ | exact agree_refl)), rfl⟩
        · intro us
          refine WL.valw (R.pickF rfl hb3 rfl) ?_
          exact WL.nil ⟨(congrArg boo (Option.some.inj hg4)), (by repeat (first | refine agree_upd rfl ?_ | refine agree_upds' rfl ?_ | exact agree_refl)), rfl⟩
    · intro us
      refine WL.valw (R.mv (v := (boo b10)) rfl) ?_
      obtain ⟨b17, hg12, h⟩ := bindE h
      refine WL.grp 9 [26, 27, 28, 29, 30, 31, 32, 33] 34 (boo b17) ?_ ?_
      · rcases boolE b10 with hb11 | hb11
        · replace hg12 := condT hg12 hb11
          refine WL.gno rfl rfl hb11 ?_
          refine WL.gno rfl rfl hb11 ?_
          refine WL.gno rfl rfl hb11 ?_
          refine WL.gno rfl rfl hb11 ?_
          refine WL.gund rfl rfl ?_
          refine WL.gund rfl rfl ?_
          refine WL.gund rfl rfl ?_
          refine WL.gno rfl rfl hb11 ?_
          refine WL.valw (R.pickT rfl hb11 rfl) ?_
          exact WL.nil ⟨(congrArg boo (Option.some.inj hg12)), (by repeat (first | refine agree_upd rfl ?_ | refine agree_upds' rfl ?_ | exact agree_refl)), rfl⟩
        · replace hg12 := condF hg12 hb11
          refine WL.gyes rfl rfl hb11 ?_
          refine WL.valw (R.mv (v := (str p_ppend)) rfl) ?_
          refine WL.gyes rfl rfl hb11 ?_
          refine WL.valw (R.lenS (a := p_ppend) rfl Tryd.underlying9) ?_
          refine WL.gyes rfl rfl hb11 ?_
          refine WL.valw (R.gtr rfl rfl) ?_
          refine WL.gyes rfl rfl hb11 ?_
          refine WL.valw (R.mv (v := (boo (decide (1 < (p_ppend.length : Int))))) rfl) ?_
          obtain ⟨b16, hg14, hg12⟩ := bindE hg12
          refine WL.grp 4 [30, 31, 32] 33 (boo b16) ?_ ?_
          · rcases boolE (decide (1 < (p_ppend.length : Int))) with hb13 | hb13
            · replace hg14 := condT hg14 hb13
              refine WL.gyes rfl rfl hb13 ?_
              refine WL.valw (R.mv (v := (str p_ppend)) rfl) ?_
              refine WL.gyes rfl rfl hb13 ?_
              obtain ⟨c15, hc15, hg14⟩ := bindE hg14
              refine WL.valw (R.idxS rfl rfl Tryd.underlying9 hc15) ?_
              refine WL.gyes rfl rfl hb13 ?_
              refine WL.valw (R.neq8 (a := c15) (b := 46) rfl rfl) ?_
              refine WL.gyes rfl rfl hb11 ?_
              refine WL.valw (R.pickT rfl hb13 rfl) ?_
              exact WL.nil ⟨(congrArg boo (Option.some.inj hg14)), (by repeat (first | refine agree_upd rfl ?_ | refine agree_upds' rfl ?_ | exact agree_refl)), rfl⟩
            · replace hg14 := condF hg14 hb13
              refine WL.gno rfl rfl hb13 ?_
              refine WL.gno rfl rfl hb13 ?_
              refine WL.gno rfl rfl hb13 ?_
              refine WL.gyes rfl rfl hb11 ?_
              refine WL.valw (R.pickF rfl hb13 rfl) ?_
              exact WL.nil ⟨(congrArg boo (Option.some.inj hg14)), (by repeat (first | refine agree_upd rfl ?_ | refine agree_upds' rfl ?_ | exact agree_refl)), rfl⟩
          · intro us
            refine WL.valw (R.pickF rfl hb11 rfl) ?_
            exact WL.nil ⟨(congrArg boo (Option.some.inj hg12)), (by repeat (first | refine agree_upd rfl ?_ | refine agree_upds' rfl ?_ | exact agree_refl)), rfl⟩
      · intro us
        refine WL.nil ?_
        rcases condE h with ⟨hc18, h⟩ | ⟨hc18, h⟩
        · refine WP.condT rfl hc18 ?_
          refine WP.seq ?_
          refine WP.region ?_
          refine WL.valw (R.as (v := (int 0)) rfl) ?_
          refine WL.valw (R.as (v := (boo false)) rfl) ?_
          refine WL.nil ?_
          obtain rfl := Option.some.inj h
          refine WP.ret (Out.two rfl S rfl rfl ?_)
          exact rfl
        · refine WP.condF rfl hc18 ?_
          refine WP.skip ?_
          refine WP.seq ?_
          refine WP.region ?_
          refine WL.valw (R.mv (v := (str p_ppend)) rfl) ?_
          obtain ⟨c19, hc19, h⟩ := bindE h
          refine WL.valw (R.idxS rfl rfl Tryd.underlying9 hc19) ?_
          refine WL.valw (R.sub8 (a := c19) (b := 48) rfl rfl) ?_
          refine WL.valw (R.i64of8 (a := c19 - 48) rfl Tryd.underlying5 Tryd.underlying3) ?_
          refine WL.valw (R.mul rfl rfl) ?_
          refine WL.valw (R.as (v := (int (wr (((c19 - 48).toNat : Int) * 1000)))) rfl) ?_
          refine WL.nil ?_
          refine WP.seq ?_
          refine WP.region ?_
          refine WL.valw (R.as (v := (int 100)) rfl) ?_
          refine WL.nil ?_
          refine WP.seq ?_
          refine WP.seq ?_
          refine WP.region ?_
          refine WL.valw (R.as (v := (int 2)) rfl) ?_
          refine WL.nil ?_
          obtain ⟨r34, hr35, h⟩ := bindE h
          refine WP.cut (fun f w => match r34 with | .inl y_29 => ∃ (H28 : Hp), f 4 = (int y_29) ∧ St w0 H0 w H28 [] | .inr _ => False) ?_ ?_
          · refine WP.block ?_
            refine WP.loopM (ref01_ParseQ_L0 p_ppend) (fun s f w => match s with | (y_22, y_24, y_26) => ∃ (H20 : Hp), f 0 = (str p_ppend) ∧ f 4 = (int y_22) ∧ f 5 = (int y_24) ∧ f 6 = (int y_26) ∧ St w0 H0 w H20 []) (wr (((c19 - 48).toNat : Int) * 1000), 100, 2) r34 hr35 ?_ ?_
            · exact ⟨H0, rfl, rfl, rfl, rfl, S⟩
            · intro s f w hI y31 hy32 hy33
              obtain ⟨y_22, y_24, y_26⟩ := s
              obtain ⟨H20, h21, h23, h25, h27, S⟩ := hI
              refine WP.seq ?_
              refine WP.seq ?_
              refine WP.region ?_
              refine WL.valw (R.mv (v := (int y_26)) h27) ?_
              refine WL.valw (R.mv (v := (str p_ppend)) h21) ?_
              refine WL.valw (R.lenS (a := p_ppend) rfl Tryd.underlying9) ?_
              refine WL.valw (R.lss rfl rfl) ?_
              refine WL.nil ?_
              rcases condE hy32 with ⟨hc36, hy32⟩ | ⟨hc36, hy32⟩
              · refine WP.condT rfl hc36 ?_
                refine WP.skip ?_
                refine WP.seq ?_
                refine WP.block ?_
                refine WP.seq ?_
                refine WP.seq ?_
                refine WP.region ?_
                refine WL.valw (R.mv (v := (str p_ppend)) h21) ?_
                refine WL.valw (R.mv (v := (int y_26)) h27) ?_
                obtain ⟨c37, hc37, hy32⟩ := bindE hy32
                refine WL.valw (R.idxS rfl rfl Tryd.underlying9 hc37) ?_
                obtain ⟨r38, hr38, hy32⟩ := bindE hy32
                refine W.call S rfl (ref01_Digit_ok S.holds c37 hr38) ?_
                rintro v39 w40 H41 hle42 S rfl
                refine WL.valw (R.not rfl) ?_
                refine WL.nil ?_
                rcases condE hy32 with ⟨hc43, hy32⟩ | ⟨hc43, hy32⟩
                · refine WP.condT rfl hc43 ?_
                  refine WP.seq ?_
                  refine WP.region ?_
                  refine WL.valw (R.as (v := (int 0)) rfl) ?_
                  refine WL.valw (R.as (v := (boo false)) rfl) ?_
                  refine WL.nil ?_
                  obtain rfl := Option.some.inj hy32
                  obtain rfl := hy33
                  obtain rfl := Option.some.inj h
                  refine WP.ret (Out.two rfl S rfl rfl ?_)
                  exact rfl
                · refine WP.condF rfl hc43 ?_
                  refine WP.skip ?_
                  refine WP.seq ?_
                  refine WP.region ?_
                  refine WL.valw (R.mv (v := (int y_22)) h23) ?_
                  refine WL.valw (R.mv (v := (str p_ppend)) h21) ?_
                  refine WL.valw (R.mv (v := (int y_26)) h27) ?_
                  obtain ⟨c44, hc44, hy32⟩ := bindE hy32
                  refine WL.valw (R.idxS rfl rfl Tryd.underlying9 hc44) ?_
                  refine WL.valw (R.sub8 (a := c44) (b := 48) rfl rfl) ?_
                  refine WL.valw (R.i64of8 (a := c44 - 48) rfl Tryd.underlying5 Tryd.underlying3) ?_
                  refine WL.valw (R.mv (v := (int y_24)) h25) ?_
                  refine WL.valw (R.mul rfl rfl) ?_
                  refine WL.valw (R.add rfl rfl) ?_
                  refine WL.valw (R.as (v := (int (wr (y_22 + (wr (((c44 - 48).toNat : Int) * y_24)))))) rfl) ?_
                  refine WL.nil ?_
                  refine WP.region ?_
                  refine WL.valw (R.mv (v := (int y_24)) h25) ?_
                  obtain ⟨n45, hn45, hy32⟩ := bindE hy32
                  refine WL.valw (R.quo' rfl rfl hn45) ?_
                  refine WL.valw (R.as (v := (int n45)) rfl) ?_
                  refine WL.nil ?_
                  refine WP.region ?_
                  refine WL.valw (R.mv (v := (int y_26)) h27) ?_
                  refine WL.valw (R.add rfl rfl) ?_
                  refine WL.valw (R.as (v := (int (wr (y_26 + 1)))) rfl) ?_
                  refine WL.nil ?_
                  obtain rfl := Option.some.inj hy32
                  exact ⟨rfl, ⟨H41, h21, rfl, rfl, rfl, S⟩⟩
              · refine WP.condF rfl hc36 ?_
                refine WP.exit ?_
                obtain rfl := Option.some.inj hy32
                obtain rfl := hy33
                exact ⟨H20, h23, S⟩
          · intro f w hM
            rcases r34 with y_29 | e
            · obtain ⟨H28, h30, S⟩ := hM
              refine WP.seq ?_
              refine WP.seq ?_
              refine WP.region ?_
              refine WL.valw (R.mv (v := (int y_29)) h30) ?_
              refine WL.valw (R.gtr rfl rfl) ?_
              refine WL.nil ?_
              rcases condE h with ⟨hc46, h⟩ | ⟨hc46, h⟩
              · refine WP.condT rfl hc46 ?_
                refine WP.seq ?_
                refine WP.region ?_
                refine WL.valw (R.as (v := (int 0)) rfl) ?_
                refine WL.valw (R.as (v := (boo false)) rfl) ?_
                refine WL.nil ?_
                obtain rfl := Option.some.inj h
                refine WP.ret (Out.two rfl S rfl rfl ?_)
                exact rfl
              · refine WP.condF rfl hc46 ?_
                refine WP.skip ?_
                refine WP.seq ?_
                refine WP.region ?_
                refine WL.valw (R.mv (v := (int y_29)) h30) ?_
                refine WL.valw (R.as (v := (int y_29)) rfl) ?_
                refine WL.valw (R.as (v := (boo true)) rfl) ?_
                refine WL.nil ?_
                obtain rfl := Option.some.inj h
                refine WP.ret (Out.two rfl S rfl rfl ?_)
                exact rfl
            · exact hM.elim
set_option maxHeartbeats 4000000 in
theorem strings_trimRightByte_ok {w0 : World} {H0 : Hp} (hw : Holds w0 H0) (p_s : Str) (p_c : UInt8) {r : Str} (h : strings_trimRightByte p_s p_c = some r) :
    Con Tryd.prog 55 [(str p_s), (byt p_c)] w0 H0 (fun H' v => v = (str r)) := by
  refine Con.mk (N := 23) Tryd.func55 rfl rfl (by kernel_rfl) rfl ?_
  have S := St.start hw
  refine WP.seq ?_
  refine WP.region ?_
  refine WL.valw (R.as (v := (str [])) rfl) ?_
  refine WL.nil ?_
  refine WP.seq ?_
  obtain ⟨s_6, hr12, h⟩ := bindE h
  refine WP.cut (fun f w => ∃ (H5 : Hp), f 0 = (str s_6) ∧ St w0 H0 w H5 []) ?_ ?_
  · refine WP.block ?_
    refine WP.loopM (strings_trimRightByte_L0 p_c) (fun s f w => match s with | s_2 => ∃ (H1 : Hp), f 0 = (str s_2) ∧ f 1 = (byt p_c) ∧ St w0 H0 w H1 []) p_s s_6 hr12 ?_ ?_
    · exact ⟨H0, rfl, rfl, S⟩
    · intro s_2 f w hI y8 hy9 hy10
      obtain ⟨H1, h3, h4, S⟩ := hI
      refine WP.seq ?_
      refine WP.seq ?_
      refine WP.region ?_
      refine WL.valw (R.mv (v := (str s_2)) h3) ?_
      refine WL.valw (R.lenS (a := s_2) rfl Tryd.underlying9) ?_
      refine WL.valw (R.gtr rfl rfl) ?_
      refine WL.valw (R.mv (v := (boo (decide (0 < (s_2.length : Int))))) rfl) ?_
      obtain ⟨b16, hg14, hy9⟩ := bindE hy9
      refine WL.grp 8 [9, 10, 11, 12, 13, 14, 15] 16 (boo b16) ?_ ?_
      · rcases boolE (decide (0 < (s_2.length : Int))) with hb13 | hb13
        · replace hg14 := condT hg14 hb13
          refine WL.gyes rfl rfl hb13 ?_
          refine WL.valw (R.mv (v := (str s_2)) h3) ?_
          refine WL.gyes rfl rfl hb13 ?_
          refine WL.valw (R.mv (v := (str s_2)) h3) ?_
          refine WL.gyes rfl rfl hb13 ?_
          refine WL.valw (R.lenS (a := s_2) rfl Tryd.underlying9) ?_
          refine WL.gyes rfl rfl hb13 ?_
          refine WL.valw (R.sub rfl rfl) ?_
          refine WL.gyes rfl rfl hb13 ?_
          obtain ⟨c15, hc15, hg14⟩ := bindE hg14
          refine WL.valw (R.idxS rfl rfl Tryd.underlying9 hc15) ?_
          refine WL.gyes rfl rfl hb13 ?_
          refine WL.valw (R.mv (v := (byt p_c)) h4) ?_
          refine WL.gyes rfl rfl hb13 ?_
          refine WL.valw (R.eql8 (a := c15) (b := p_c) rfl rfl) ?_
          refine WL.valw (R.pickT rfl hb13 rfl) ?_
          exact WL.nil ⟨(congrArg boo (Option.some.inj hg14)), (by repeat (first | refine agree_upd rfl ?_ | refine agree_upds' rfl ?_ | exact agree_refl)), rfl⟩
        · replace hg14 := condF hg14 hb13
          refine WL.gno rfl rfl hb13 ?_
          refine WL.gno rfl rfl hb13 ?_
          refine WL.gno rfl rfl hb13 ?_
          refine WL.gno rfl rfl hb13 ?_
          refine WL.gno rfl rfl hb13 ?_
          refine WL.gno rfl rfl hb13 ?_
          refine WL.gno rfl rfl hb13 ?_
          refine WL.valw (R.pickF rfl hb13 rfl) ?_
          exact WL.nil ⟨(congrArg boo (Option.some.inj hg14)), (by repeat (first | refine agree_upd rfl ?_ | refine agree_upds' rfl ?_ | exact agree_refl)), rfl⟩
      · intro us
        refine WL.nil ?_
        rcases condE hy9 with ⟨hc17, hy9⟩ | ⟨hc17, hy9⟩
        · refine WP.condT rfl hc17 ?_
          refine WP.skip ?_
          refine WP.block ?_
          refine WP.region ?_
          refine WL.valw (R.mv (v := (str s_2)) h3) ?_
          refine WL.valw (R.mv (v := (str s_2)) h3) ?_
          refine WL.valw (R.lenS (a := s_2) rfl Tryd.underlying9) ?_
          refine WL.valw (R.sub rfl rfl) ?_
          obtain ⟨s18, hs18, hy9⟩ := bindE hy9
          refine WL.valw (R.subShi rfl rfl Tryd.underlying9 hs18) ?_
          refine WL.valw (R.as (v := (str s18)) rfl) ?_
          refine WL.nil ?_
          obtain rfl := Option.some.inj hy9
          exact ⟨rfl, ⟨H1, rfl, h4, S⟩⟩
        · refine WP.condF rfl hc17 ?_
          refine WP.exit ?_
          obtain rfl := Option.some.inj hy9
          obtain rfl := hy10
          exact ⟨H1, h3, S⟩
  · rintro f w ⟨H5, h7, S⟩
    refine WP.seq ?_
    refine WP.region ?_
    refine WL.valw (R.mv (v := (str s_6)) h7) ?_
    refine WL.valw (R.as (v := (str s_6)) rfl) ?_
    refine WL.nil ?_
    obtain rfl := Option.some.inj h
    refine WP.ret (Out.one rfl S rfl ?_)
    exact rfl
set_option maxHeartbeats 4000000 in
theorem strings_trimRightASCII_ok {w0 : World} {H0 : Hp} (hw : Holds w0 H0) (p_s : Str) (p_as : Str) {bp_as : Nat} (Ap_as : At H0 ⟨bp_as, 0, none⟩ (setc p_as)) {r : Str} (h : strings_trimRightASCII p_s p_as = some r) :
    Con Tryd.prog 57 [(str p_s), (ptr bp_as 0)] w0 H0 (fun H' v => v = (str r)) := by
  refine Con.mk (N := 22) Tryd.func57 rfl rfl (by kernel_rfl) rfl ?_
  have S := St.start hw
  refine WP.seq ?_
  refine WP.region ?_
  refine WL.valw (R.as (v := (str [])) rfl) ?_
  refine WL.nil ?_
  refine WP.seq ?_
  obtain ⟨s_6, hr12, h⟩ := bindE h
  refine WP.cut (fun f w => ∃ (H5 : Hp), f 0 = (str s_6) ∧ St w0 H0 w H5 []) ?_ ?_
  · refine WP.block ?_
    refine WP.loopM (strings_trimRightASCII_L0 p_as) (fun s f w => match s with | s_2 => ∃ (H1 : Hp), f 0 = (str s_2) ∧ f 1 = (ptr bp_as 0) ∧ At H1 ⟨bp_as, 0, none⟩ (setc p_as) ∧ St w0 H0 w H1 []) p_s s_6 hr12 ?_ ?_
    · exact ⟨H0, rfl, rfl, Ap_as, S⟩
    · intro s_2 f w hI y8 hy9 hy10
      obtain ⟨H1, h3, h4, Ap_as, S⟩ := hI
      refine WP.seq ?_
      refine WP.seq ?_
      refine WP.region ?_
      refine WL.valw (R.mv (v := (str s_2)) h3) ?_
      refine WL.valw (R.lenS (a := s_2) rfl Tryd.underlying9) ?_
      refine WL.valw (R.gtr rfl rfl) ?_
      refine WL.nil ?_
      rcases condE hy9 with ⟨hc13, hy9⟩ | ⟨hc13, hy9⟩
      · refine WP.condT rfl hc13 ?_
        refine WP.skip ?_
        refine WP.block ?_
        refine WP.seq ?_
        refine WP.seq ?_
        refine WP.region ?_
        refine WL.valw (R.mv (v := (ptr bp_as 0)) h4) ?_
        refine WL.valw (R.mv (v := (str s_2)) h3) ?_
        refine WL.valw (R.mv (v := (str s_2)) h3) ?_
        refine WL.valw (R.lenS (a := s_2) rfl Tryd.underlying9) ?_
        refine WL.valw (R.sub rfl rfl) ?_
        obtain ⟨c14, hc14, hy9⟩ := bindE hy9
        refine WL.valw (R.idxS rfl rfl Tryd.underlying9 hc14) ?_
        obtain ⟨r15, hr15, hy9⟩ := bindE hy9
        refine W.call S rfl (strings_asciiSet_contains_ok S.holds p_as c14 Ap_as hr15) ?_
        rintro v16 w17 H18 hle19 S rfl
        have Ap_as := At.mono Ap_as hle19 (by intro h; have := congrArg List.length h; rw [setc_len] at this; cases this)
        refine WL.valw (R.not rfl) ?_
        refine WL.nil ?_
        rcases condE hy9 with ⟨hc20, hy9⟩ | ⟨hc20, hy9⟩
        · refine WP.condT rfl hc20 ?_
          refine WP.exit ?_
          obtain rfl := Option.some.inj hy9
          obtain rfl := hy10
          exact ⟨H18, h3, S⟩
        · refine WP.condF rfl hc20 ?_
          refine WP.skip ?_
          refine WP.region ?_
          refine WL.valw (R.mv (v := (str s_2)) h3) ?_
          refine WL.valw (R.mv (v := (str s_2)) h3) ?_
          refine WL.valw (R.lenS (a := s_2) rfl Tryd.underlying9) ?_
          refine WL.valw (R.sub rfl rfl) ?_
          obtain ⟨s21, hs21, hy9⟩ := bindE hy9
          refine WL.valw (R.subShi rfl rfl Tryd.underlying9 hs21) ?_
          refine WL.valw (R.as (v := (str s21)) rfl) ?_
          refine WL.nil ?_
          obtain rfl := Option.some.inj hy9
          exact ⟨rfl, ⟨H18, rfl, h4, Ap_as, S⟩⟩
      · refine WP.condF rfl hc13 ?_
        refine WP.exit ?_
        obtain rfl := Option.some.inj hy9
        obtain rfl := hy10
        exact ⟨H1, h3, S⟩
  · rintro f w ⟨H5, h7, S⟩
    refine WP.seq ?_
    refine WP.region ?_
    refine WL.valw (R.mv (v := (str s_6)) h7) ?_
    refine WL.valw (R.as (v := (str s_6)) rfl) ?_
    refine WL.nil ?_
    obtain rfl := Option.some.inj h
    refine WP.ret (Out.one rfl S rfl ?_)
    exact rfl
set_option maxHeartbeats 4000000 in
theorem strings_TrimRight_ok {w0 : World} {H0 : Hp} (hw : Holds w0 H0) (p_s : Str) (p_cutset : Str) {r : Str} (h : strings_TrimRight p_s p_cutset = some r) :
    Con Tryd.prog 38 [(str p_s), (str p_cutset)] w0 H0 (fun H' v => v = (str r)) := by
  refine Con.mk (N := 37) Tryd.func38 rfl rfl (by kernel_rfl) rfl ?_
  have S := St.start hw
  refine WP.seq ?_
  refine WP.region ?_
  refine WL.valw (R.as (v := (str [])) rfl) ?_
  refine WL.nil ?_
  refine WP.seq ?_
  refine WP.seq ?_
  refine WP.region ?_
  refine WL.valw (R.mv (v := (str p_s)) rfl) ?_
  refine WL.valw (R.eqlS (a := p_s) (b := []) rfl rfl) ?_
  refine WL.valw (R.mv (v := (boo (p_s == []))) rfl) ?_
  refine WL.grp 3 [10, 11] 12 (boo ((p_s == []) || (p_cutset == []))) ?_ ?_
  · rcases boolE (p_s == []) with hb1 | hb1
    · refine WL.gno rfl rfl hb1 ?_
      refine WL.gno rfl rfl hb1 ?_
      refine WL.valw (R.pickT rfl hb1 rfl) ?_
      exact WL.nil ⟨(orT hb1), (by repeat (first | refine agree_upd rfl ?_ | refine agree_upds' rfl ?_ | exact agree_refl)), rfl⟩
    · refine WL.gyes rfl rfl hb1 ?_
      refine WL.valw (R.mv (v := (str p_cutset)) rfl) ?_
      refine WL.gyes rfl rfl hb1 ?_
      refine WL.valw (R.eqlS (a := p_cutset) (b := []) rfl rfl) ?_
      refine WL.valw (R.pickF rfl hb1 rfl) ?_
      exact WL.nil ⟨(orF hb1), (by repeat (first | refine agree_upd rfl ?_ | refine agree_upds' rfl ?_ | exact agree_refl)), rfl⟩
  · intro us
    refine WL.nil ?_
    rcases condE h with ⟨hc3, h⟩ | ⟨hc3, h⟩
    · refine WP.condT rfl hc3 ?_
      refine WP.seq ?_
      refine WP.region ?_
      refine WL.valw (R.mv (v := (str p_s)) rfl) ?_
      refine WL.valw (R.as (v := (str p_s)) rfl) ?_
      refine WL.nil ?_
      obtain rfl := Option.some.inj h
      refine WP.ret (Out.one rfl S rfl ?_)
      exact rfl
    · refine WP.condF rfl hc3 ?_
      refine WP.skip ?_
      refine WP.seq ?_
      refine WP.seq ?_
      refine WP.region ?_
      refine WL.valw (R.mv (v := (str p_cutset)) rfl) ?_
      refine WL.valw (R.lenS (a := p_cutset) rfl Tryd.underlying9) ?_
      refine WL.valw (R.eql rfl rfl) ?_
      refine WL.valw (R.mv (v := (boo ((p_cutset.length : Int) == 1))) rfl) ?_
      obtain ⟨b7, hg5, h⟩ := bindE h
      refine WL.grp 4 [18, 19, 20] 21 (boo b7) ?_ ?_
      · rcases boolE ((p_cutset.length : Int) == 1) with hb4 | hb4
        · replace hg5 := condT hg5 hb4
          refine WL.gyes rfl rfl hb4 ?_
          refine WL.valw (R.mv (v := (str p_cutset)) rfl) ?_
          refine WL.gyes rfl rfl hb4 ?_
          obtain ⟨c6, hc6, hg5⟩ := bindE hg5
          refine WL.valw (R.idxS rfl rfl Tryd.underlying9 hc6) ?_
          refine WL.gyes rfl rfl hb4 ?_
          refine WL.valw (R.lss8 (a := c6) (b := 128) rfl rfl) ?_
          refine WL.valw (R.pickT rfl hb4 rfl) ?_
          exact WL.nil ⟨(congrArg boo (Option.some.inj hg5)), (by repeat (first | refine agree_upd rfl ?_ | refine agree_upds' rfl ?_ | exact agree_refl)), rfl⟩
        · replace hg5 := condF hg5 hb4
          refine WL.gno rfl rfl hb4 ?_
          refine WL.gno rfl rfl hb4 ?_
          refine WL.gno rfl rfl hb4 ?_
          refine WL.valw (R.pickF rfl hb4 rfl) ?_
          exact WL.nil ⟨(congrArg boo (Option.some.inj hg5)), (by repeat (first | refine agree_upd rfl ?_ | refine agree_upds' rfl ?_ | exact agree_refl)), rfl⟩
      · intro us
        refine WL.nil ?_
        rcases condE h with ⟨hc8, h⟩ | ⟨hc8, h⟩
        · refine WP.condT rfl hc8 ?_
          refine WP.seq ?_
          refine WP.region ?_
          refine WL.valw (R.mv (v := (str p_s)) rfl) ?_
          refine WL.valw (R.mv (v := (str p_cutset)) rfl) ?_
          obtain ⟨c9, hc9, h⟩ := bindE h
          refine WL.valw (R.idxS rfl rfl Tryd.underlying9 hc9) ?_
          obtain ⟨r10, hr10, h⟩ := bindE h
          refine W.call S rfl (strings_trimRightByte_ok S.holds p_s c9 hr10) ?_
          rintro v11 w12 H13 hle14 S rfl
          refine WL.valw (R.as (v := (str r10)) rfl) ?_
          refine WL.nil ?_
          obtain rfl := Option.some.inj h
          refine WP.ret (Out.one rfl S rfl ?_)
          exact rfl
        · refine WP.condF rfl hc8 ?_
          refine WP.skip ?_
          refine WP.seq ?_
          refine WP.seq ?_
          refine WP.region ?_
          refine WL.valw (R.mv (v := (str p_cutset)) rfl) ?_
          obtain ⟨r15, hr15, h⟩ := bindE h
          refine W.call S rfl (strings_makeASCIISet_ok S.holds p_cutset hr15) ?_
          rintro v16 w17 H18 hle19 S rfl
          refine WL.valw (R.mv (v := (.tuple ⟨[(.agg (Lib.setCells p_cutset)), (boo true)]⟩)) rfl) ?_
          refine WL.valw (R.ext rfl rfl) ?_
          refine WL.valw (R.ext rfl rfl) ?_
          refine W.alloc (List.replicate 256 (boo false)) S zer68 ?_
          intro b20 w21 S
          refine W.store (i := 0) (setc p_cutset) S rfl rfl rfl lay68 (show (Lib.setCells p_cutset).size = 256 by have := setc_len p_cutset; simpa [setc] using this) (setc_one p_cutset) (Nat.le_of_eq (by rw [List.length_replicate])) (splice_all ((setc_len p_cutset).trans (by rw [List.length_replicate]))) ?_
          intro w22 S
          obtain ⟨H23, hle24, hs25, _, S⟩ := S.settle (i := 0) rfl
          replace S : St w0 H0 _ H23 [] := S
          have hA26 : At H23 ⟨b20, 0, none⟩ (setc p_cutset) := ⟨_, _, rfl, hs25, [], by simp⟩
          refine WL.valw (R.as (v := (boo true)) rfl) ?_
          refine WL.nil ?_
          refine WP.seq ?_
          refine WP.region ?_
          refine WL.valw (R.mv (v := (boo true)) rfl) ?_
          refine WL.nil ?_
          refine WP.condT (b := true) rfl rfl ?_
          refine WP.seq ?_
          refine WP.region ?_
          refine WL.valw (R.mv (v := (str p_s)) rfl) ?_
          obtain ⟨r27, hr27, h⟩ := bindE h
          refine W.call S rfl (strings_trimRightASCII_ok S.holds p_s p_cutset hA26 hr27) ?_
          rintro v28 w29 H30 hle31 S rfl
          have hA26 := At.mono hA26 hle31 (by intro h; have := congrArg List.length h; rw [setc_len] at this; cases this)
          refine WL.valw (R.as (v := (str r27)) rfl) ?_
          refine WL.nil ?_
          obtain rfl := Option.some.inj h
          refine WP.ret (Out.one rfl S rfl ?_)
          exact rfl
set_option maxHeartbeats 4000000 in
theorem qvalue_Format_ok {w0 : World} {H0 : Hp} (hw : Holds w0 H0) (p_q : Int) {r : Str} (h : qvalue_Format p_q = some r) :
    Con Tryd.prog 15 [(int p_q)] w0 H0 (fun H' v => v = (str r)) := by
  refine Con.mk (N := 35) Tryd.func15 rfl rfl (by kernel_rfl) rfl ?_
  have S := St.start hw
  refine WP.seq ?_
  refine WP.region ?_
  refine WL.valw (R.as (v := (str [])) rfl) ?_
  refine WL.nil ?_
  refine WP.seq ?_
  refine WP.block ?_
  refine WP.seq ?_
  refine WP.region ?_
  refine WL.valw (R.mv (v := (int p_q)) rfl) ?_
  refine WL.valw (R.lss rfl rfl) ?_
  refine WL.valw (R.mv (v := (boo (decide (p_q < 0)))) rfl) ?_
  refine WL.grp 3 [8, 9] 10 (boo ((decide (p_q < 0)) || (decide (1000 < p_q)))) ?_ ?_
  · rcases boolE (decide (p_q < 0)) with hb1 | hb1
    · refine WL.gno rfl rfl hb1 ?_
      refine WL.gno rfl rfl hb1 ?_
      refine WL.valw (R.pickT rfl hb1 rfl) ?_
      exact WL.nil ⟨(orT hb1), (by repeat (first | refine agree_upd rfl ?_ | refine agree_upds' rfl ?_ | exact agree_refl)), rfl⟩
    · refine WL.gyes rfl rfl hb1 ?_
      refine WL.valw (R.mv (v := (int p_q)) rfl) ?_
      refine WL.gyes rfl rfl hb1 ?_
      refine WL.valw (R.gtr rfl rfl) ?_
      refine WL.valw (R.pickF rfl hb1 rfl) ?_
      exact WL.nil ⟨(orF hb1), (by repeat (first | refine agree_upd rfl ?_ | refine agree_upds' rfl ?_ | exact agree_refl)), rfl⟩
  · intro us
    refine WL.valw (R.as (v := (boo ((decide (p_q < 0)) || (decide (1000 < p_q))))) rfl) ?_
    refine WL.nil ?_
    rcases condE h with ⟨hc3, h⟩ | ⟨hc3, h⟩
    · refine WP.condT rfl hc3 ?_
      refine WP.seq ?_
      refine WP.region ?_
      refine WL.valw (R.as (v := (str [])) rfl) ?_
      refine WL.nil ?_
      obtain rfl := Option.some.inj h
      refine WP.ret (Out.one rfl S rfl ?_)
      exact rfl
    · refine WP.condF rfl hc3 ?_
      refine WP.seq ?_
      refine WP.region ?_
      refine WL.valw (R.mv (v := (int p_q)) rfl) ?_
      refine WL.valw (R.eql rfl rfl) ?_
      refine WL.valw (R.as (v := (boo (p_q == 0))) rfl) ?_
      refine WL.nil ?_
      rcases condE h with ⟨hc4, h⟩ | ⟨hc4, h⟩
      · refine WP.condT rfl hc4 ?_
        refine WP.seq ?_
        refine WP.region ?_
        refine WL.valw (R.as (v := (str [48])) rfl) ?_
        refine WL.nil ?_
        obtain rfl := Option.some.inj h
        refine WP.ret (Out.one rfl S rfl ?_)
        exact rfl
      · refine WP.condF rfl hc4 ?_
        refine WP.seq ?_
        refine WP.region ?_
        refine WL.valw (R.mv (v := (int p_q)) rfl) ?_
        refine WL.valw (R.eql rfl rfl) ?_
        refine WL.valw (R.as (v := (boo (p_q == 1000))) rfl) ?_
        refine WL.nil ?_
        rcases condE h with ⟨hc5, h⟩ | ⟨hc5, h⟩
        · refine WP.condT rfl hc5 ?_
          refine WP.seq ?_
          refine WP.region ?_
          refine WL.valw (R.as (v := (str [49])) rfl) ?_
          refine WL.nil ?_
          obtain rfl := Option.some.inj h
          refine WP.ret (Out.one rfl S rfl ?_)
          exact rfl
        · refine WP.condF rfl hc5 ?_
          refine WP.skip ?_
          refine WP.seq ?_
          refine WP.region ?_
          refine WL.valw (R.mv (v := (int p_q)) rfl) ?_
          obtain ⟨n6, hn6, h⟩ := bindE h
          refine WL.valw (R.quo' rfl rfl hn6) ?_
          refine WL.valw (R.add rfl rfl) ?_
          refine WL.valw (R.u8of64 rfl Tryd.underlying3 Tryd.underlying5) ?_
          refine WL.valw (R.mv (v := (int p_q)) rfl) ?_
          obtain ⟨n7, hn7, h⟩ := bindE h
          refine WL.valw (R.quo' rfl rfl hn7) ?_
          obtain ⟨n8, hn8, h⟩ := bindE h
          refine WL.valw (R.rem' rfl rfl hn8) ?_
          refine WL.valw (R.add rfl rfl) ?_
          refine WL.valw (R.u8of64 rfl Tryd.underlying3 Tryd.underlying5) ?_
          refine WL.valw (R.mv (v := (int p_q)) rfl) ?_
          obtain ⟨n9, hn9, h⟩ := bindE h
          refine WL.valw (R.rem' rfl rfl hn9) ?_
          refine WL.valw (R.add rfl rfl) ?_
          refine WL.valw (R.u8of64 rfl Tryd.underlying3 Tryd.underlying5) ?_
          refine W.bslice (α := UInt8) [(byt (toU8 (wr (48 + n6)))), (byt (toU8 (wr (48 + n8)))), (byt (toU8 (wr (48 + n9))))] ([toU8 (wr (48 + n6)), toU8 (wr (48 + n8)), toU8 (wr (48 + n9))] : List UInt8) S el57 rfl rfl rfl (by decide) (encS ⟨rfl, rfl⟩ (encS ⟨rfl, rfl⟩ (encS ⟨rfl, rfl⟩ enc0))) ?_
          intro u10 w11 H12 hle13 R14 S
          refine WL.valw (R.as (v := u10) rfl) ?_
          refine WL.nil ?_
          refine WP.seq ?_
          refine WP.region ?_
          refine WL.valw (R.mv (v := u10) rfl) ?_
          refine WL.valw (R.strL S R14 rfl Tryd.underlying57 Tryd.underlying9 Tryd.underlying5) ?_
          obtain ⟨r15, hr15, h⟩ := bindE h
          refine W.call S rfl (strings_TrimRight_ok S.holds ([toU8 (wr (48 + n6)), toU8 (wr (48 + n8)), toU8 (wr (48 + n9))] : List UInt8) [48] hr15) ?_
          rintro v16 w17 H18 hle19 S rfl
          have R14 := Sl.mono R14 hle19
          obtain ⟨s20, hs20, h⟩ := bindE h
          refine WL.valw (R.cat (a := [48, 46]) (b := r15) rfl rfl hs20) ?_
          refine WL.valw (R.as (v := (str s20)) rfl) ?_
          refine WL.nil ?_
          obtain rfl := Option.some.inj h
          refine WP.ret (Out.one rfl S rfl ?_)
          exact rfl
set_option maxHeartbeats 4000000 in
theorem law08_awake_ok {w0 : World} {H0 : Hp} (hw : Holds w0 H0) {r : Bool} (h : law08_awake = some r) :
    Con Tryd.prog 14 [] w0 H0 (fun H' v => v = (boo r)) := by
  refine Con.mk (N := 16) Tryd.func14 rfl rfl (by kernel_rfl) rfl ?_
  have S := St.start hw
  refine WP.seq ?_
  refine WP.region ?_
  refine WL.valw (R.as (v := (boo false)) rfl) ?_
  refine WL.nil ?_
  refine WP.seq ?_
  refine WP.region ?_
  obtain ⟨r1, hr1, h⟩ := bindE h
  refine W.call S rfl (qvalue_Parse_ok S.holds [48, 46, 48, 53] hr1) ?_
  rintro v2 w3 H4 hle5 S rfl
  refine WL.valw (R.mv (v := (.tuple ⟨[(int r1.1), (boo r1.2)]⟩)) rfl) ?_
  refine WL.valw (R.ext rfl rfl) ?_
  refine WL.valw (R.ext rfl rfl) ?_
  refine WL.valw (R.as (v := (int r1.1)) rfl) ?_
  refine WL.valw (R.as (v := (boo r1.2)) rfl) ?_
  refine WL.nil ?_
  refine WP.seq ?_
  refine WP.region ?_
  refine WL.valw (R.mv (v := (boo r1.2)) rfl) ?_
  refine WL.valw (R.mv (v := (boo r1.2)) rfl) ?_
  refine WL.grp 3 [9, 10] 11 (boo (r1.2 && (r1.1 == 50))) ?_ ?_
  · rcases boolE r1.2 with hb6 | hb6
    · refine WL.gyes rfl rfl hb6 ?_
      refine WL.valw (R.mv (v := (int r1.1)) rfl) ?_
      refine WL.gyes rfl rfl hb6 ?_
      refine WL.valw (R.eql rfl rfl) ?_
      refine WL.valw (R.pickT rfl hb6 rfl) ?_
      exact WL.nil ⟨(andT hb6), (by repeat (first | refine agree_upd rfl ?_ | refine agree_upds' rfl ?_ | exact agree_refl)), rfl⟩
    · refine WL.gno rfl rfl hb6 ?_
      refine WL.gno rfl rfl hb6 ?_
      refine WL.valw (R.pickF rfl hb6 rfl) ?_
      exact WL.nil ⟨(andF hb6), (by repeat (first | refine agree_upd rfl ?_ | refine agree_upds' rfl ?_ | exact agree_refl)), rfl⟩
  · intro us
    refine WL.valw (R.mv (v := (boo (r1.2 && (r1.1 == 50)))) rfl) ?_
    obtain ⟨b15, hg9, h⟩ := bindE h
    refine WL.grpw 3 [13, 14] 15 (boo b15) (fun w => ∃ H' : Hp, H4.le H' ∧ St w0 H0 w H' []) ?_ ?_
    · rcases boolE (r1.2 && (r1.1 == 50)) with hb8 | hb8
      · replace hg9 := condT hg9 hb8
        refine WL.gyes rfl rfl hb8 ?_
        obtain ⟨r10, hr10, hg9⟩ := bindE hg9
        refine W.call S rfl (qvalue_Format_ok S.holds 500 hr10) ?_
        rintro v11 w12 H13 hle14 S rfl
        refine WL.gyes rfl rfl hb8 ?_
        refine WL.valw (R.eqlS (a := r10) (b := [48, 46, 53]) rfl rfl) ?_
        refine WL.valw (R.pickT rfl hb8 rfl) ?_
        exact WL.nil ⟨(congrArg boo (Option.some.inj hg9)), (by repeat (first | refine agree_upd rfl ?_ | refine agree_upds' rfl ?_ | exact agree_refl)), ⟨H13, hle14, S⟩⟩
      · replace hg9 := condF hg9 hb8
        refine WL.gno rfl rfl hb8 ?_
        refine WL.gno rfl rfl hb8 ?_
        refine WL.valw (R.pickF rfl hb8 rfl) ?_
        exact WL.nil ⟨(congrArg boo (Option.some.inj hg9)), (by repeat (first | refine agree_upd rfl ?_ | refine agree_upds' rfl ?_ | exact agree_refl)), ⟨H4, (Hp.le.refl _), S⟩⟩
    · intro us w17 ⟨H16, hle18, S⟩
      refine WL.valw (R.as (v := (boo b15)) rfl) ?_
      refine WL.nil ?_
      obtain rfl := Option.some.inj h
      refine WP.ret (Out.one rfl S rfl ?_)
      exact rfl
set_option maxHeartbeats 4000000 in
theorem law08_QvalueParses_ok {w0 : World} {H0 : Hp} (hw : Holds w0 H0) (p_s : Str) {r : Bool} (h : law08_QvalueParses p_s = some r) :
    Con Tryd.prog 3 [(str p_s)] w0 H0 (fun H' v => v = (boo r)) := by
  refine Con.mk (N := 31) Tryd.func3 rfl rfl (by kernel_rfl) rfl ?_
  have S := St.start hw
  refine WP.seq ?_
  refine WP.region ?_
  refine WL.valw (R.as (v := (boo false)) rfl) ?_
  refine WL.nil ?_
  refine WP.seq ?_
  refine WP.seq ?_
  refine WP.region ?_
  refine WL.valw (R.mv (v := (str p_s)) rfl) ?_
  refine WL.valw (R.lenS (a := p_s) rfl Tryd.underlying9) ?_
  refine WL.valw (R.gtr rfl rfl) ?_
  refine WL.nil ?_
  rcases condE h with ⟨hc1, h⟩ | ⟨hc1, h⟩
  · refine WP.condT rfl hc1 ?_
    refine WP.seq ?_
    refine WP.region ?_
    refine WL.valw (R.as (v := (boo true)) rfl) ?_
    refine WL.nil ?_
    obtain rfl := Option.some.inj h
    refine WP.ret (Out.one rfl S rfl ?_)
    exact rfl
  · refine WP.condF rfl hc1 ?_
    refine WP.skip ?_
    refine WP.seq ?_
    refine WP.region ?_
    refine WL.valw (R.mv (v := (str p_s)) rfl) ?_
    obtain ⟨r2, hr2, h⟩ := bindE h
    refine W.call S rfl (qvalue_Parse_ok S.holds p_s hr2) ?_
    rintro v3 w4 H5 hle6 S rfl
    refine WL.valw (R.mv (v := (.tuple ⟨[(int r2.1), (boo r2.2)]⟩)) rfl) ?_
    refine WL.valw (R.ext rfl rfl) ?_
    refine WL.valw (R.ext rfl rfl) ?_
    refine WL.valw (R.as (v := (int r2.1)) rfl) ?_
    refine WL.valw (R.as (v := (boo r2.2)) rfl) ?_
    refine WL.nil ?_
    refine WP.seq ?_
    refine WP.region ?_
    refine WL.valw (R.mv (v := (str p_s)) rfl) ?_
    obtain ⟨r7, hr7, h⟩ := bindE h
    refine W.call S rfl (ref01_ParseQ_ok S.holds p_s hr7) ?_
    rintro v8 w9 H10 hle11 S rfl
    refine WL.valw (R.mv (v := (.tuple ⟨[(int r7.1), (boo r7.2)]⟩)) rfl) ?_
    refine WL.valw (R.ext rfl rfl) ?_
    refine WL.valw (R.ext rfl rfl) ?_
    refine WL.valw (R.as (v := (int r7.1)) rfl) ?_
    refine WL.valw (R.as (v := (boo r7.2)) rfl) ?_
    refine WL.nil ?_
    refine WP.seq ?_
    refine WP.region ?_
    refine WL.valw (R.mv (v := (int r2.1)) rfl) ?_
    refine WL.valw (R.mv (v := (int r7.1)) rfl) ?_
    refine WL.valw (R.eql rfl rfl) ?_
    refine WL.valw (R.mv (v := (boo (r2.1 == r7.1))) rfl) ?_
    refine WL.grp 4 [24, 25, 26] 27 (boo ((r2.1 == r7.1) && (r2.2 == r7.2))) ?_ ?_
    · rcases boolE (r2.1 == r7.1) with hb12 | hb12
      · refine WL.gyes rfl rfl hb12 ?_
        refine WL.valw (R.mv (v := (boo r2.2)) rfl) ?_
        refine WL.gyes rfl rfl hb12 ?_
        refine WL.valw (R.mv (v := (boo r7.2)) rfl) ?_
        refine WL.gyes rfl rfl hb12 ?_
        refine WL.valw (R.eqlB rfl rfl Tryd.underlying4) ?_
        refine WL.valw (R.pickT rfl hb12 rfl) ?_
        exact WL.nil ⟨(andT hb12), (by repeat (first | refine agree_upd rfl ?_ | refine agree_upds' rfl ?_ | exact agree_refl)), rfl⟩
      · refine WL.gno rfl rfl hb12 ?_
        refine WL.gno rfl rfl hb12 ?_
        refine WL.gno rfl rfl hb12 ?_
        refine WL.valw (R.pickF rfl hb12 rfl) ?_
        exact WL.nil ⟨(andF hb12), (by repeat (first | refine agree_upd rfl ?_ | refine agree_upds' rfl ?_ | exact agree_refl)), rfl⟩
    · intro us
      refine WL.valw (R.mv (v := (boo ((r2.1 == r7.1) && (r2.2 == r7.2)))) rfl) ?_
      obtain ⟨b21, hg15, h⟩ := bindE h
      refine WL.grpw 2 [29] 30 (boo b21) (fun w => ∃ H' : Hp, H10.le H' ∧ St w0 H0 w H' []) ?_ ?_
      · rcases boolE ((r2.1 == r7.1) && (r2.2 == r7.2)) with hb14 | hb14
        · replace hg15 := condT hg15 hb14
          refine WL.gyes rfl rfl hb14 ?_
          obtain ⟨r16, hr16, hg15⟩ := bindE hg15
          refine W.call S rfl (law08_awake_ok S.holds  hr16) ?_
          rintro v17 w18 H19 hle20 S rfl
          refine WL.valw (R.pickT rfl hb14 rfl) ?_
          exact WL.nil ⟨(congrArg boo (Option.some.inj hg15)), (by repeat (first | refine agree_upd rfl ?_ | refine agree_upds' rfl ?_ | exact agree_refl)), ⟨H19, hle20, S⟩⟩
        · replace hg15 := condF hg15 hb14
          refine WL.gno rfl rfl hb14 ?_
          refine WL.valw (R.pickF rfl hb14 rfl) ?_
          exact WL.nil ⟨(congrArg boo (Option.some.inj hg15)), (by repeat (first | refine agree_upd rfl ?_ | refine agree_upds' rfl ?_ | exact agree_refl)), ⟨H10, (Hp.le.refl _), S⟩⟩
      · intro us w23 ⟨H22, hle24, S⟩
        refine WL.valw (R.as (v := (boo b21)) rfl) ?_
        refine WL.nil ?_
        obtain rfl := Option.some.inj h
        refine WP.ret (Out.one rfl S rfl ?_)
        exact rfl
set_option maxHeartbeats 4000000 in
theorem ref01_Decimal_ok {w0 : World} {H0 : Hp} (hw : Holds w0 H0) (p_n : Int) {r : Str} (h : ref01_Decimal p_n = some r) :
    Con Tryd.prog 39 [(int p_n)] w0 H0 (fun H' v => v = (str r)) := by
  refine Con.mk (N := 37) Tryd.func39 rfl rfl (by kernel_rfl) rfl ?_
  have S := St.start hw
  refine WP.seq ?_
  refine WP.region ?_
  refine WL.valw (R.as (v := (str [])) rfl) ?_
  refine WL.nil ?_
  refine WP.seq ?_
  refine WP.region ?_
  refine WL.valw (R.as (v := (.slice none 0 0)) rfl) ?_
  refine WL.nil ?_
  refine WP.seq ?_
  refine WP.region ?_
  refine WL.valw (R.mv (v := (int p_n)) rfl) ?_
  refine WL.valw (R.lss rfl rfl) ?_
  refine WL.valw (R.as (v := (boo (decide (p_n < 0)))) rfl) ?_
  refine WL.nil ?_
  refine WP.seq ?_
  refine WP.seq ?_
  refine WP.region ?_
  refine WL.valw (R.as (v := (int 0)) rfl) ?_
  refine WL.nil ?_
  obtain ⟨b_12, hr21, h⟩ := bindE h
  refine WP.cut (fun f w => ∃ (H11 : Hp) (v13 : Value), f 3 = v13 ∧ f 4 = (boo (decide (p_n < 0))) ∧ Sl (α := UInt8) H11 v13 b_12 ∧ St w0 H0 w H11 []) ?_ ?_
  · refine WP.block ?_
    refine WP.loopM (ref01_Decimal_L0) (fun s f w => match s with | (n_2, b_4, k_9) => ∃ (H1 : Hp) (v5 : Value), f 0 = (int n_2) ∧ f 3 = v5 ∧ f 4 = (boo (decide (p_n < 0))) ∧ f 5 = (int k_9) ∧ Sl (α := UInt8) H1 v5 b_4 ∧ St w0 H0 w H1 []) (p_n, ([] : List UInt8), 0) b_12 hr21 ?_ ?_
    · exact ⟨H0, .slice none 0 0, rfl, rfl, rfl, rfl, Sl.nil, S⟩
    · intro s f w hI y17 hy18 hy19
      obtain ⟨n_2, b_4, k_9⟩ := s
      obtain ⟨H1, v5, h3, h7, h8, h10, R6, S⟩ := hI
      refine WP.seq ?_
      refine WP.seq ?_
      refine WP.region ?_
      refine WL.valw (R.mv (v := (int n_2)) h3) ?_
      refine WL.valw (R.neq rfl rfl) ?_
      refine WL.valw (R.mv (v := (boo (n_2 != 0))) rfl) ?_
      refine WL.grp 3 [12, 13] 14 (boo ((n_2 != 0) || (k_9 == 0))) ?_ ?_
      · rcases boolE (n_2 != 0) with hb22 | hb22
        · refine WL.gno rfl rfl hb22 ?_
          refine WL.gno rfl rfl hb22 ?_
          refine WL.valw (R.pickT rfl hb22 rfl) ?_
          exact WL.nil ⟨(orT hb22), (by repeat (first | refine agree_upd rfl ?_ | refine agree_upds' rfl ?_ | exact agree_refl)), rfl⟩
        · refine WL.gyes rfl rfl hb22 ?_
          refine WL.valw (R.mv (v := (int k_9)) h10) ?_
          refine WL.gyes rfl rfl hb22 ?_
          refine WL.valw (R.eql rfl rfl) ?_
          refine WL.valw (R.pickF rfl hb22 rfl) ?_
          exact WL.nil ⟨(orF hb22), (by repeat (first | refine agree_upd rfl ?_ | refine agree_upds' rfl ?_ | exact agree_refl)), rfl⟩
      · intro us
        refine WL.nil ?_
        rcases condE hy18 with ⟨hc24, hy18⟩ | ⟨hc24, hy18⟩
        · refine WP.condT rfl hc24 ?_
          refine WP.skip ?_
          refine WP.seq ?_
          refine WP.block ?_
          refine WP.seq ?_
          refine WP.region ?_
          refine WL.valw (R.mv (v := (int n_2)) h3) ?_
          obtain ⟨n25, hn25, hy18⟩ := bindE hy18
          refine WL.valw (R.rem' rfl rfl hn25) ?_
          refine WL.valw (R.as (v := (int n25)) rfl) ?_
          refine WL.nil ?_
          refine WP.seq ?_
          refine WP.seq ?_
          refine WP.region ?_
          refine WL.valw (R.mv (v := (int n25)) rfl) ?_
          refine WL.valw (R.lss rfl rfl) ?_
          refine WL.nil ?_
          obtain ⟨d_31, hj33, hy18⟩ := bindE hy18
          refine WP.cut (fun f w => ∃ (H26 : Hp), f 0 = (int n_2) ∧ f 3 = v5 ∧ f 4 = (boo (decide (p_n < 0))) ∧ f 5 = (int k_9) ∧ f 6 = (int d_31) ∧ Sl (α := UInt8) H26 v5 b_4 ∧ St w0 H0 w H26 []) ?_ ?_
          · rcases condE hj33 with ⟨hc35, hj33⟩ | ⟨hc35, hj33⟩
            · refine WP.condT rfl hc35 ?_
              refine WP.region ?_
              refine WL.valw (R.mv (v := (int n25)) rfl) ?_
              refine WL.valw (R.neg rfl) ?_
              refine WL.valw (R.as (v := (int (wr (-n25)))) rfl) ?_
              refine WL.nil ?_
              obtain rfl := Option.some.inj hj33
              exact ⟨H1, h3, h7, h8, h10, rfl, R6, S⟩
            · refine WP.condF rfl hc35 ?_
              refine WP.skip ?_
              obtain rfl := Option.some.inj hj33
              exact ⟨H1, h3, h7, h8, h10, rfl, R6, S⟩
          · rintro f w ⟨H26, h27, h28, h29, h30, h32, R6, S⟩
            refine WP.seq ?_
            refine WP.region ?_
            refine WL.valw (R.mv (v := (int d_31)) h32) ?_
            refine WL.valw (R.add rfl rfl) ?_
            refine WL.valw (R.u8of64 rfl Tryd.underlying3 Tryd.underlying5) ?_
            refine W.bslice (α := UInt8) [(byt (toU8 (wr (48 + d_31))))] ([toU8 (wr (48 + d_31))] : List UInt8) S el57 rfl rfl rfl (by decide) (encS ⟨rfl, rfl⟩ enc0) ?_
            intro u36 w37 H38 hle39 R40 S
            have R6 := Sl.mono R6 hle39
            refine WL.valw (R.mv (v := v5) h28) ?_
            obtain ⟨l41, hl41, hy18⟩ := bindE hy18
            refine W.app (α := UInt8) (i := 0) S el57 rfl rfl rfl R40 R6 hl41 ?_
            intro v42 w43 H44 hle45 R46 S
            have R6 := Sl.mono R6 hle45
            have R40 := Sl.mono R40 hle45
            refine WL.valw (R.as (v := v42) rfl) ?_
            refine WL.nil ?_
            refine WP.region ?_
            refine WL.valw (R.mv (v := (int n_2)) h27) ?_
            obtain ⟨n47, hn47, hy18⟩ := bindE hy18
            refine WL.valw (R.quo' rfl rfl hn47) ?_
            refine WL.valw (R.as (v := (int n47)) rfl) ?_
            refine WL.nil ?_
            refine WP.region ?_
            refine WL.valw (R.mv (v := (int k_9)) h30) ?_
            refine WL.valw (R.add rfl rfl) ?_
            refine WL.valw (R.as (v := (int (wr (k_9 + 1)))) rfl) ?_
            refine WL.nil ?_
            obtain rfl := Option.some.inj hy18
            exact ⟨rfl, ⟨H44, v42, rfl, rfl, h29, rfl, R46, (S.drop _ (.cons _ .slnil))⟩⟩
        · refine WP.condF rfl hc24 ?_
          refine WP.exit ?_
          obtain rfl := Option.some.inj hy18
          obtain rfl := hy19
          exact ⟨H1, v5, h7, h8, R6, S⟩
  · rintro f w ⟨H11, v13, h15, h16, R14, S⟩
    refine WP.seq ?_
    refine WP.seq ?_
    refine WP.region ?_
    refine WL.valw (R.mv (v := (boo (decide (p_n < 0)))) h16) ?_
    refine WL.nil ?_
    rcases condE h with ⟨hc48, h⟩ | ⟨hc48, h⟩
    · refine WP.condT rfl hc48 ?_
      refine WP.seq ?_
      refine WP.region ?_
      refine WL.valw (R.mv (v := v13) h15) ?_
      refine WL.valw (R.strL S R14 rfl Tryd.underlying57 Tryd.underlying9 Tryd.underlying5) ?_
      obtain ⟨s49, hs49, h⟩ := bindE h
      refine WL.valw (R.cat (a := [45]) (b := b_12) rfl rfl hs49) ?_
      refine WL.valw (R.as (v := (str s49)) rfl) ?_
      refine WL.nil ?_
      obtain rfl := Option.some.inj h
      refine WP.ret (Out.one rfl S rfl ?_)
      exact rfl
    · refine WP.condF rfl hc48 ?_
      refine WP.skip ?_
      refine WP.seq ?_
      refine WP.region ?_
      refine WL.valw (R.mv (v := v13) h15) ?_
      refine WL.valw (R.strL S R14 rfl Tryd.underlying57 Tryd.underlying9 Tryd.underlying5) ?_
      refine WL.valw (R.as (v := (str b_12)) rfl) ?_
      refine WL.nil ?_
      obtain rfl := Option.some.inj h
      refine WP.ret (Out.one rfl S rfl ?_)
      exact rfl
set_option maxHeartbeats 4000000 in
theorem ref01_FormatQ_ok {w0 : World} {H0 : Hp} (hw : Holds w0 H0) (p_q : Int) {r : Str} (h : ref01_FormatQ p_q = some r) :
    Con Tryd.prog 16 [(int p_q)] w0 H0 (fun H' v => v = (str r)) := by
  refine Con.mk (N := 34) Tryd.func16 rfl rfl (by kernel_rfl) rfl ?_
  have S := St.start hw
  refine WP.seq ?_
  refine WP.region ?_
  refine WL.valw (R.as (v := (str [])) rfl) ?_
  refine WL.nil ?_
  refine WP.seq ?_
  refine WP.block ?_
  refine WP.seq ?_
  refine WP.region ?_
  refine WL.valw (R.mv (v := (int p_q)) rfl) ?_
  refine WL.valw (R.lss rfl rfl) ?_
  refine WL.valw (R.mv (v := (boo (decide (p_q < 0)))) rfl) ?_
  refine WL.grp 3 [8, 9] 10 (boo ((decide (p_q < 0)) || (decide (1000 < p_q)))) ?_ ?_
  · rcases boolE (decide (p_q < 0)) with hb1 | hb1
    · refine WL.gno rfl rfl hb1 ?_
      refine WL.gno rfl rfl hb1 ?_
      refine WL.valw (R.pickT rfl hb1 rfl) ?_
      exact WL.nil ⟨(orT hb1), (by repeat (first | refine agree_upd rfl ?_ | refine agree_upds' rfl ?_ | exact agree_refl)), rfl⟩
    · refine WL.gyes rfl rfl hb1 ?_
      refine WL.valw (R.mv (v := (int p_q)) rfl) ?_
      refine WL.gyes rfl rfl hb1 ?_
      refine WL.valw (R.gtr rfl rfl) ?_
      refine WL.valw (R.pickF rfl hb1 rfl) ?_
      exact WL.nil ⟨(orF hb1), (by repeat (first | refine agree_upd rfl ?_ | refine agree_upds' rfl ?_ | exact agree_refl)), rfl⟩
  · intro us
    refine WL.valw (R.as (v := (boo ((decide (p_q < 0)) || (decide (1000 < p_q))))) rfl) ?_
    refine WL.nil ?_
    rcases condE h with ⟨hc3, h⟩ | ⟨hc3, h⟩
    · refine WP.condT rfl hc3 ?_
      refine WP.seq ?_
      refine WP.region ?_
      refine WL.valw (R.as (v := (str [])) rfl) ?_
      refine WL.nil ?_
      obtain rfl := Option.some.inj h
      refine WP.ret (Out.one rfl S rfl ?_)
      exact rfl
    · refine WP.condF rfl hc3 ?_
      refine WP.seq ?_
      refine WP.region ?_
      refine WL.valw (R.mv (v := (int p_q)) rfl) ?_
      refine WL.valw (R.eql rfl rfl) ?_
      refine WL.valw (R.as (v := (boo (p_q == 0))) rfl) ?_
      refine WL.nil ?_
      rcases condE h with ⟨hc4, h⟩ | ⟨hc4, h⟩
      · refine WP.condT rfl hc4 ?_
        refine WP.seq ?_
        refine WP.region ?_
        refine WL.valw (R.as (v := (str [48])) rfl) ?_
        refine WL.nil ?_
        obtain rfl := Option.some.inj h
        refine WP.ret (Out.one rfl S rfl ?_)
        exact rfl
      · refine WP.condF rfl hc4 ?_
        refine WP.seq ?_
        refine WP.region ?_
        refine WL.valw (R.mv (v := (int p_q)) rfl) ?_
        refine WL.valw (R.eql rfl rfl) ?_
        refine WL.valw (R.as (v := (boo (p_q == 1000))) rfl) ?_
        refine WL.nil ?_
        rcases condE h with ⟨hc5, h⟩ | ⟨hc5, h⟩
        · refine WP.condT rfl hc5 ?_
          refine WP.seq ?_
          refine WP.region ?_
          refine WL.valw (R.as (v := (str [49])) rfl) ?_
          refine WL.nil ?_
          obtain rfl := Option.some.inj h
          refine WP.ret (Out.one rfl S rfl ?_)
          exact rfl
        · refine WP.condF rfl hc5 ?_
          refine WP.skip ?_
          refine WP.seq ?_
          refine WP.region ?_
          refine WL.valw (R.mv (v := (int p_q)) rfl) ?_
          refine WL.valw (R.add rfl rfl) ?_
          obtain ⟨r6, hr6, h⟩ := bindE h
          refine W.call S rfl (ref01_Decimal_ok S.holds (wr (1000 + p_q)) hr6) ?_
          rintro v7 w8 H9 hle10 S rfl
          obtain ⟨s11, hs11, h⟩ := bindE h
          refine WL.valw (R.subSlo rfl rfl Tryd.underlying9 hs11) ?_
          refine WL.valw (R.as (v := (str s11)) rfl) ?_
          refine WL.nil ?_
          refine WP.seq ?_
          obtain ⟨s_16, hr22, h⟩ := bindE h
          refine WP.cut (fun f w => ∃ (H15 : Hp), f 3 = (str s_16) ∧ St w0 H0 w H15 []) ?_ ?_
          · refine WP.block ?_
            refine WP.loopM (ref01_FormatQ_L0) (fun s f w => match s with | s_13 => ∃ (H12 : Hp), f 3 = (str s_13) ∧ St w0 H0 w H12 []) s11 s_16 hr22 ?_ ?_
            · exact ⟨H9, rfl, S⟩
            · intro s_13 f w hI y18 hy19 hy20
              obtain ⟨H12, h14, S⟩ := hI
              refine WP.seq ?_
              refine WP.seq ?_
              refine WP.region ?_
              refine WL.valw (R.mv (v := (str s_13)) h14) ?_
              refine WL.valw (R.mv (v := (str s_13)) h14) ?_
              refine WL.valw (R.lenS (a := s_13) rfl Tryd.underlying9) ?_
              refine WL.valw (R.sub rfl rfl) ?_
              obtain ⟨c23, hc23, hy19⟩ := bindE hy19
              refine WL.valw (R.idxS rfl rfl Tryd.underlying9 hc23) ?_
              refine WL.valw (R.eql8 (a := c23) (b := 48) rfl rfl) ?_
              refine WL.nil ?_
              rcases condE hy19 with ⟨hc24, hy19⟩ | ⟨hc24, hy19⟩
              · refine WP.condT rfl hc24 ?_
                refine WP.skip ?_
                refine WP.block ?_
                refine WP.region ?_
                refine WL.valw (R.mv (v := (str s_13)) h14) ?_
                refine WL.valw (R.mv (v := (str s_13)) h14) ?_
                refine WL.valw (R.lenS (a := s_13) rfl Tryd.underlying9) ?_
                refine WL.valw (R.sub rfl rfl) ?_
                obtain ⟨s25, hs25, hy19⟩ := bindE hy19
                refine WL.valw (R.subShi rfl rfl Tryd.underlying9 hs25) ?_
                refine WL.valw (R.as (v := (str s25)) rfl) ?_
                refine WL.nil ?_
                obtain rfl := Option.some.inj hy19
                exact ⟨rfl, ⟨H12, rfl, S⟩⟩
              · refine WP.condF rfl hc24 ?_
                refine WP.exit ?_
                obtain rfl := Option.some.inj hy19
                obtain rfl := hy20
                exact ⟨H12, h14, S⟩
          · rintro f w ⟨H15, h17, S⟩
            refine WP.seq ?_
            refine WP.region ?_
            refine WL.valw (R.mv (v := (str s_16)) h17) ?_
            obtain ⟨s26, hs26, h⟩ := bindE h
            refine WL.valw (R.cat (a := [48, 46]) (b := s_16) rfl rfl hs26) ?_
            refine WL.valw (R.as (v := (str s26)) rfl) ?_
            refine WL.nil ?_
            obtain rfl := Option.some.inj h
            refine WP.ret (Out.one rfl S rfl ?_)
            exact rfl
set_option maxHeartbeats 4000000 in
theorem law08_QvalueFormats_ok {w0 : World} {H0 : Hp} (hw : Holds w0 H0) (p_q : Int) {r : Bool} (h : law08_QvalueFormats p_q = some r) :
    Con Tryd.prog 4 [(int p_q)] w0 H0 (fun H' v => v = (boo r)) := by
  refine Con.mk (N := 37) Tryd.func4 rfl rfl (by kernel_rfl) rfl ?_
  have S := St.start hw
  refine WP.seq ?_
  refine WP.region ?_
  refine WL.valw (R.as (v := (boo false)) rfl) ?_
  refine WL.nil ?_
  refine WP.seq ?_
  refine WP.region ?_
  refine WL.valw (R.mv (v := (int p_q)) rfl) ?_
  obtain ⟨r1, hr1, h⟩ := bindE h
  refine W.call S rfl (qvalue_Format_ok S.holds p_q hr1) ?_
  rintro v2 w3 H4 hle5 S rfl
  refine WL.valw (R.as (v := (str r1)) rfl) ?_
  refine WL.nil ?_
  refine WP.seq ?_
  refine WP.seq ?_
  refine WP.region ?_
  refine WL.valw (R.mv (v := (str r1)) rfl) ?_
  refine WL.valw (R.mv (v := (int p_q)) rfl) ?_
  obtain ⟨r6, hr6, h⟩ := bindE h
  refine W.call S rfl (ref01_FormatQ_ok S.holds p_q hr6) ?_
  rintro v7 w8 H9 hle10 S rfl
  refine WL.valw (R.neqS (a := r1) (b := r6) rfl rfl) ?_
  refine WL.nil ?_
  rcases condE h with ⟨hc11, h⟩ | ⟨hc11, h⟩
  · refine WP.condT rfl hc11 ?_
    refine WP.seq ?_
    refine WP.region ?_
    refine WL.valw (R.as (v := (boo false)) rfl) ?_
    refine WL.nil ?_
    obtain rfl := Option.some.inj h
    refine WP.ret (Out.one rfl S rfl ?_)
    exact rfl
  · refine WP.condF rfl hc11 ?_
    refine WP.skip ?_
    refine WP.seq ?_
    refine WP.region ?_
    refine WL.valw (R.mv (v := (str r1)) rfl) ?_
    obtain ⟨r12, hr12, h⟩ := bindE h
    refine W.call S rfl (qvalue_Parse_ok S.holds r1 hr12) ?_
    rintro v13 w14 H15 hle16 S rfl
    refine WL.valw (R.mv (v := (.tuple ⟨[(int r12.1), (boo r12.2)]⟩)) rfl) ?_
    refine WL.valw (R.ext rfl rfl) ?_
    refine WL.valw (R.ext rfl rfl) ?_
    refine WL.valw (R.as (v := (int r12.1)) rfl) ?_
    refine WL.valw (R.as (v := (boo r12.2)) rfl) ?_
    refine WL.nil ?_
    refine WP.seq ?_
    refine WP.region ?_
    refine WL.valw (R.mv (v := (boo r12.2)) rfl) ?_
    refine WL.valw (R.mv (v := (int p_q)) rfl) ?_
    refine WL.valw (R.geq rfl rfl) ?_
    refine WL.valw (R.mv (v := (boo (decide (0 ≤ p_q)))) rfl) ?_
    refine WL.grp 3 [21, 22] 23 (boo ((decide (0 ≤ p_q)) && (decide (p_q ≤ 1000)))) ?_ ?_
    · rcases boolE (decide (0 ≤ p_q)) with hb17 | hb17
      · refine WL.gyes rfl rfl hb17 ?_
        refine WL.valw (R.mv (v := (int p_q)) rfl) ?_
        refine WL.gyes rfl rfl hb17 ?_
        refine WL.valw (R.leq rfl rfl) ?_
        refine WL.valw (R.pickT rfl hb17 rfl) ?_
        exact WL.nil ⟨(andT hb17), (by repeat (first | refine agree_upd rfl ?_ | refine agree_upds' rfl ?_ | exact agree_refl)), rfl⟩
      · refine WL.gno rfl rfl hb17 ?_
        refine WL.gno rfl rfl hb17 ?_
        refine WL.valw (R.pickF rfl hb17 rfl) ?_
        exact WL.nil ⟨(andF hb17), (by repeat (first | refine agree_upd rfl ?_ | refine agree_upds' rfl ?_ | exact agree_refl)), rfl⟩
    · intro us
      refine WL.valw (R.eqlB rfl rfl Tryd.underlying4) ?_
      refine WL.valw (R.mv (v := (boo (r12.2 == ((decide (0 ≤ p_q)) && (decide (p_q ≤ 1000)))))) rfl) ?_
      refine WL.grp 8 [26, 27, 28, 29, 30, 31, 32] 33 (boo ((r12.2 == ((decide (0 ≤ p_q)) && (decide (p_q ≤ 1000)))) && ((!r12.2) || (r12.1 == p_q)))) ?_ ?_
      · rcases boolE (r12.2 == ((decide (0 ≤ p_q)) && (decide (p_q ≤ 1000)))) with hb19 | hb19
        · refine WL.gyes rfl rfl hb19 ?_
          refine WL.valw (R.mv (v := (boo r12.2)) rfl) ?_
          refine WL.gyes rfl rfl hb19 ?_
          refine WL.valw (R.not rfl) ?_
          refine WL.gyes rfl rfl hb19 ?_
          refine WL.valw (R.mv (v := (boo (!r12.2))) rfl) ?_
          refine WL.grp 4 [29, 30, 31] 32 (boo ((!r12.2) || (r12.1 == p_q))) ?_ ?_
          · rcases boolE (!r12.2) with hb21 | hb21
            · refine WL.gno rfl rfl hb21 ?_
              refine WL.gno rfl rfl hb21 ?_
              refine WL.gno rfl rfl hb21 ?_
              refine WL.gyes rfl rfl hb19 ?_
              refine WL.valw (R.pickT rfl hb21 rfl) ?_
              exact WL.nil ⟨(orT hb21), (by repeat (first | refine agree_upd rfl ?_ | refine agree_upds' rfl ?_ | exact agree_refl)), rfl⟩
            · refine WL.gyes rfl rfl hb21 ?_
              refine WL.valw (R.mv (v := (int r12.1)) rfl) ?_
              refine WL.gyes rfl rfl hb21 ?_
              refine WL.valw (R.mv (v := (int p_q)) rfl) ?_
              refine WL.gyes rfl rfl hb21 ?_
              refine WL.valw (R.eql rfl rfl) ?_
              refine WL.gyes rfl rfl hb19 ?_
              refine WL.valw (R.pickF rfl hb21 rfl) ?_
              exact WL.nil ⟨(orF hb21), (by repeat (first | refine agree_upd rfl ?_ | refine agree_upds' rfl ?_ | exact agree_refl)), rfl⟩
          · intro us
            refine WL.valw (R.pickT rfl hb19 rfl) ?_
            exact WL.nil ⟨(andT hb19), (by repeat (first | refine agree_upd rfl ?_ | refine agree_upds' rfl ?_ | exact agree_refl)), rfl⟩
        · refine WL.gno rfl rfl hb19 ?_
          refine WL.gno rfl rfl hb19 ?_
          refine WL.gno rfl rfl hb19 ?_
          refine WL.gund rfl rfl ?_
          refine WL.gund rfl rfl ?_
          refine WL.gund rfl rfl ?_
          refine WL.gno rfl rfl hb19 ?_
          refine WL.valw (R.pickF rfl hb19 rfl) ?_
          exact WL.nil ⟨(andF hb19), (by repeat (first | refine agree_upd rfl ?_ | refine agree_upds' rfl ?_ | exact agree_refl)), rfl⟩
      · intro us
        refine WL.valw (R.mv (v := (boo ((r12.2 == ((decide (0 ≤ p_q)) && (decide (p_q ≤ 1000)))) && ((!r12.2) || (r12.1 == p_q))))) rfl) ?_
        obtain ⟨b30, hg24, h⟩ := bindE h
        refine WL.grpw 2 [35] 36 (boo b30) (fun w => ∃ H' : Hp, H15.le H' ∧ St w0 H0 w H' []) ?_ ?_
        · rcases boolE ((r12.2 == ((decide (0 ≤ p_q)) && (decide (p_q ≤ 1000)))) && ((!r12.2) || (r12.1 == p_q))) with hb23 | hb23
          · replace hg24 := condT hg24 hb23
            refine WL.gyes rfl rfl hb23 ?_
            obtain ⟨r25, hr25, hg24⟩ := bindE hg24
            refine W.call S rfl (law08_awake_ok S.holds  hr25) ?_
            rintro v26 w27 H28 hle29 S rfl
            refine WL.valw (R.pickT rfl hb23 rfl) ?_
            exact WL.nil ⟨(congrArg boo (Option.some.inj hg24)), (by repeat (first | refine agree_upd rfl ?_ | refine agree_upds' rfl ?_ | exact agree_refl)), ⟨H28, hle29, S⟩⟩
          · replace hg24 := condF hg24 hb23
            refine WL.gno rfl rfl hb23 ?_
            refine WL.valw (R.pickF rfl hb23 rfl) ?_
            exact WL.nil ⟨(congrArg boo (Option.some.inj hg24)), (by repeat (first | refine agree_upd rfl ?_ | refine agree_upds' rfl ?_ | exact agree_refl)), ⟨H15, (Hp.le.refl _), S⟩⟩
        · intro us w32 ⟨H31, hle33, S⟩
          refine WL.valw (R.as (v := (boo b30)) rfl) ?_
          refine WL.nil ?_
          obtain rfl := Option.some.inj h
          refine WP.ret (Out.one rfl S rfl ?_)
          exact rfl
set_option maxHeartbeats 4000000 in
theorem law08_QvalueZeros_ok {w0 : World} {H0 : Hp} (hw : Holds w0 H0) (p_s : Str) {r : Bool} (h : law08_QvalueZeros p_s = some r) :
    Con Tryd.prog 5 [(str p_s)] w0 H0 (fun H' v => v = (boo r)) := by
  refine Con.mk (N := 37) Tryd.func5 rfl rfl (by kernel_rfl) rfl ?_
  have S := St.start hw
  refine WP.seq ?_
  refine WP.region ?_
  refine WL.valw (R.as (v := (boo false)) rfl) ?_
  refine WL.nil ?_
  refine WP.seq ?_
  refine WP.seq ?_
  refine WP.region ?_
  refine WL.valw (R.mv (v := (str p_s)) rfl) ?_
  refine WL.valw (R.lenS (a := p_s) rfl Tryd.underlying9) ?_
  refine WL.valw (R.gtr rfl rfl) ?_
  refine WL.valw (R.mv (v := (boo (decide (4 < (p_s.length : Int))))) rfl) ?_
  refine WL.grp 4 [11, 12, 13] 14 (boo ((decide (4 < (p_s.length : Int))) || (decide ((p_s.length : Int) < 3)))) ?_ ?_
  · rcases boolE (decide (4 < (p_s.length : Int))) with hb1 | hb1
    · refine WL.gno rfl rfl hb1 ?_
      refine WL.gno rfl rfl hb1 ?_
      refine WL.gno rfl rfl hb1 ?_
      refine WL.valw (R.pickT rfl hb1 rfl) ?_
      exact WL.nil ⟨(orT hb1), (by repeat (first | refine agree_upd rfl ?_ | refine agree_upds' rfl ?_ | exact agree_refl)), rfl⟩
    · refine WL.gyes rfl rfl hb1 ?_
      refine WL.valw (R.mv (v := (str p_s)) rfl) ?_
      refine WL.gyes rfl rfl hb1 ?_
      refine WL.valw (R.lenS (a := p_s) rfl Tryd.underlying9) ?_
      refine WL.gyes rfl rfl hb1 ?_
      refine WL.valw (R.lss rfl rfl) ?_
      refine WL.valw (R.pickF rfl hb1 rfl) ?_
      exact WL.nil ⟨(orF hb1), (by repeat (first | refine agree_upd rfl ?_ | refine agree_upds' rfl ?_ | exact agree_refl)), rfl⟩
  · intro us
    refine WL.nil ?_
    rcases condE h with ⟨hc3, h⟩ | ⟨hc3, h⟩
    · refine WP.condT rfl hc3 ?_
      refine WP.seq ?_
      refine WP.region ?_
      refine WL.valw (R.as (v := (boo true)) rfl) ?_
      refine WL.nil ?_
      obtain rfl := Option.some.inj h
      refine WP.ret (Out.one rfl S rfl ?_)
      exact rfl
    · refine WP.condF rfl hc3 ?_
      refine WP.skip ?_
      refine WP.seq ?_
      refine WP.region ?_
      refine WL.valw (R.mv (v := (str p_s)) rfl) ?_
      obtain ⟨r4, hr4, h⟩ := bindE h
      refine W.call S rfl (qvalue_Parse_ok S.holds p_s hr4) ?_
      rintro v5 w6 H7 hle8 S rfl
      refine WL.valw (R.mv (v := (.tuple ⟨[(int r4.1), (boo r4.2)]⟩)) rfl) ?_
      refine WL.valw (R.ext rfl rfl) ?_
      refine WL.valw (R.ext rfl rfl) ?_
      refine WL.valw (R.as (v := (int r4.1)) rfl) ?_
      refine WL.valw (R.as (v := (boo r4.2)) rfl) ?_
      refine WL.nil ?_
      refine WP.seq ?_
      refine WP.region ?_
      refine WL.valw (R.mv (v := (str p_s)) rfl) ?_
      obtain ⟨s9, hs9, h⟩ := bindE h
      refine WL.valw (R.cat (a := p_s) (b := [48]) rfl rfl hs9) ?_
      obtain ⟨r10, hr10, h⟩ := bindE h
      refine W.call S rfl (qvalue_Parse_ok S.holds s9 hr10) ?_
      rintro v11 w12 H13 hle14 S rfl
      refine WL.valw (R.mv (v := (.tuple ⟨[(int r10.1), (boo r10.2)]⟩)) rfl) ?_
      refine WL.valw (R.ext rfl rfl) ?_
      refine WL.valw (R.ext rfl rfl) ?_
      refine WL.valw (R.as (v := (int r10.1)) rfl) ?_
      refine WL.valw (R.as (v := (boo r10.2)) rfl) ?_
      refine WL.nil ?_
      refine WP.seq ?_
      refine WP.region ?_
      refine WL.valw (R.mv (v := (boo r4.2)) rfl) ?_
      refine WL.valw (R.mv (v := (boo r10.2)) rfl) ?_
      refine WL.valw (R.eqlB rfl rfl Tryd.underlying4) ?_
      refine WL.valw (R.mv (v := (boo (r4.2 == r10.2))) rfl) ?_
      refine WL.grp 4 [30, 31, 32] 33 (boo ((r4.2 == r10.2) && (r4.1 == r10.1))) ?_ ?_
      · rcases boolE (r4.2 == r10.2) with hb15 | hb15
        · refine WL.gyes rfl rfl hb15 ?_
          refine WL.valw (R.mv (v := (int r4.1)) rfl) ?_
          refine WL.gyes rfl rfl hb15 ?_
          refine WL.valw (R.mv (v := (int r10.1)) rfl) ?_
          refine WL.gyes rfl rfl hb15 ?_
          refine WL.valw (R.eql rfl rfl) ?_
          refine WL.valw (R.pickT rfl hb15 rfl) ?_
          exact WL.nil ⟨(andT hb15), (by repeat (first | refine agree_upd rfl ?_ | refine agree_upds' rfl ?_ | exact agree_refl)), rfl⟩
        · refine WL.gno rfl rfl hb15 ?_
          refine WL.gno rfl rfl hb15 ?_
          refine WL.gno rfl rfl hb15 ?_
          refine WL.valw (R.pickF rfl hb15 rfl) ?_
          exact WL.nil ⟨(andF hb15), (by repeat (first | refine agree_upd rfl ?_ | refine agree_upds' rfl ?_ | exact agree_refl)), rfl⟩
      · intro us
        refine WL.valw (R.mv (v := (boo ((r4.2 == r10.2) && (r4.1 == r10.1)))) rfl) ?_
        obtain ⟨b24, hg18, h⟩ := bindE h
        refine WL.grpw 2 [35] 36 (boo b24) (fun w => ∃ H' : Hp, H13.le H' ∧ St w0 H0 w H' []) ?_ ?_
        · rcases boolE ((r4.2 == r10.2) && (r4.1 == r10.1)) with hb17 | hb17
          · replace hg18 := condT hg18 hb17
            refine WL.gyes rfl rfl hb17 ?_
            obtain ⟨r19, hr19, hg18⟩ := bindE hg18
            refine W.call S rfl (law08_awake_ok S.holds  hr19) ?_
            rintro v20 w21 H22 hle23 S rfl
            refine WL.valw (R.pickT rfl hb17 rfl) ?_
            exact WL.nil ⟨(congrArg boo (Option.some.inj hg18)), (by repeat (first | refine agree_upd rfl ?_ | refine agree_upds' rfl ?_ | exact agree_refl)), ⟨H22, hle23, S⟩⟩
          · replace hg18 := condF hg18 hb17
            refine WL.gno rfl rfl hb17 ?_
            refine WL.valw (R.pickF rfl hb17 rfl) ?_
            exact WL.nil ⟨(congrArg boo (Option.some.inj hg18)), (by repeat (first | refine agree_upd rfl ?_ | refine agree_upds' rfl ?_ | exact agree_refl)), ⟨H13, (Hp.le.refl _), S⟩⟩
        · intro us w26 ⟨H25, hle27, S⟩
          refine WL.valw (R.as (v := (boo b24)) rfl) ?_
          refine WL.nil ?_
          obtain rfl := Option.some.inj h
          refine WP.ret (Out.one rfl S rfl ?_)
          exact rfl
end Go.Proofs
