/- A part of the proof of laws of the seat: written by program over the translation. -/
import Derived.Test.YtdijehmmnpofjaaDoorPure
import Derived.Test.YtdijehmmnpofjaaDoorProg
import Derived.Test.YtdijehmmnpofjaaDoorShelf
namespace Go.Proofs
open Go.Eng Go.Eng.Pure
set_option linter.unusedVariables false
theorem el23 : Elem Tryd.prog 23 9 1 := elem_of (by kernel_rfl)
theorem lay9 : lay Tryd.prog 9 = some (false, 1) := by kernel_rfl
theorem lay5 : lay Tryd.prog 5 = some (false, 1) := by kernel_rfl
theorem el51 : Elem Tryd.prog 51 5 1 := elem_of (by kernel_rfl)
theorem fld26_0 : fld Tryd.prog 26 0 = some 0 := by kernel_rfl
theorem lay26 : lay Tryd.prog 26 = some (true, 2) := by kernel_rfl
theorem el27 : Elem Tryd.prog 27 26 2 := elem_of (by kernel_rfl)
theorem zer26 : zer Tryd.prog 26 = some [(str []), (str [])] := by kernel_rfl
theorem fld26_1 : fld Tryd.prog 26 1 = some 1 := by kernel_rfl
theorem zer93 : zer Tryd.prog 93 = some (List.replicate 256 (boo false)) := by kernel_rfl
theorem lay93 : lay Tryd.prog 93 = some (true, 256) := by kernel_rfl
theorem bp54 : bplaces Tryd.prog 54 = some [(0, 1), (1, 1)] := by kernel_rfl
theorem zer54 : zer Tryd.prog 54 = some [(int 0), (str [])] := by kernel_rfl
theorem lay54 : lay Tryd.prog 54 = some (true, 2) := by kernel_rfl
theorem fld54_1 : fld Tryd.prog 54 1 = some 1 := by kernel_rfl
theorem fld54_0 : fld Tryd.prog 54 0 = some 0 := by kernel_rfl
theorem lay3 : lay Tryd.prog 3 = some (false, 1) := by kernel_rfl
theorem mz54 : ((Tryd.prog.info? 54).bind (·.zero)) = some (agg [(int 0), (str [])]) := by kernel_rfl
theorem bp32 : bplaces Tryd.prog 32 = some [(0, 1), (1, 1), (2, 1), (3, 1), (4, 1), (5, 1), (6, 1), (7, 1), (8, 1), (9, 1), (10, 1)] := by kernel_rfl
theorem zer32 : zer Tryd.prog 32 = some [(boo false), (boo false), (boo false), (boo false), (boo false), (boo false), (boo false), (int 0), (int 0), (int 0), (int 0)] := by kernel_rfl
theorem fld32_7 : fld Tryd.prog 32 7 = some 7 := by kernel_rfl
theorem bp59 : bplaces Tryd.prog 59 = some [(0, 1), (1, 1), (2, 1), (3, 1)] := by kernel_rfl
theorem zer59 : zer Tryd.prog 59 = some [(str []), (.pointer none), (int 0), (int 0)] := by kernel_rfl
theorem fld32_8 : fld Tryd.prog 32 8 = some 8 := by kernel_rfl
theorem fld32_9 : fld Tryd.prog 32 9 = some 9 := by kernel_rfl
theorem fld32_10 : fld Tryd.prog 32 10 = some 10 := by kernel_rfl
theorem lay59 : lay Tryd.prog 59 = some (true, 4) := by kernel_rfl
theorem fld59_0 : fld Tryd.prog 59 0 = some 0 := by kernel_rfl
theorem fld59_1 : fld Tryd.prog 59 1 = some 1 := by kernel_rfl
theorem lay58 : lay Tryd.prog 58 = some (false, 1) := by kernel_rfl
theorem fld59_2 : fld Tryd.prog 59 2 = some 2 := by kernel_rfl
theorem fld59_3 : fld Tryd.prog 59 3 = some 3 := by kernel_rfl
theorem el60 : Elem Tryd.prog 60 59 4 := elem_of (by kernel_rfl)
theorem lay32 : lay Tryd.prog 32 = some (true, 11) := by kernel_rfl
theorem bp26 : bplaces Tryd.prog 26 = some [(0, 1), (1, 1)] := by kernel_rfl
theorem fld32_0 : fld Tryd.prog 32 0 = some 0 := by kernel_rfl
theorem lay4 : lay Tryd.prog 4 = some (false, 1) := by kernel_rfl
theorem fld32_4 : fld Tryd.prog 32 4 = some 4 := by kernel_rfl
theorem fld32_1 : fld Tryd.prog 32 1 = some 1 := by kernel_rfl
theorem fld32_2 : fld Tryd.prog 32 2 = some 2 := by kernel_rfl
theorem fld32_3 : fld Tryd.prog 32 3 = some 3 := by kernel_rfl
theorem fld32_5 : fld Tryd.prog 32 5 = some 5 := by kernel_rfl
theorem fld32_6 : fld Tryd.prog 32 6 = some 6 := by kernel_rfl
theorem ps32 : plainS Tryd.prog 32 = true := by kernel_rfl
theorem fk32 : fieldK Tryd.prog 32 = [some 1, some 1, some 1, some 1, some 1, some 1, some 1, some 0, some 0, some 0, some 0] := by kernel_rfl
theorem fty32_0 : ftype Tryd.prog 32 0 = some (4, 0) := by kernel_rfl
theorem fty32_1 : ftype Tryd.prog 32 1 = some (4, 1) := by kernel_rfl
theorem zer86 : zer Tryd.prog 86 = some [(str []), (str []), (str []), (str []), (str []), (str []), (str []), (str []), (str []), (str []), (str []), (str [])] := by kernel_rfl
theorem zer98 : zer Tryd.prog 98 = some [(int 0), (int 0), (int 0), (int 0), (int 0), (int 0), (int 0), (int 0), (int 0), (int 0), (int 0), (int 0)] := by kernel_rfl
theorem zer89 : zer Tryd.prog 89 = some [(str []), (str []), (str []), (str []), (str []), (str []), (str [])] := by kernel_rfl
theorem zer81 : zer Tryd.prog 81 = some [(str []), (str []), (str []), (str []), (str [])] := by kernel_rfl
theorem zer80 : zer Tryd.prog 80 = some [(int 0), (int 0), (int 0), (int 0), (int 0)] := by kernel_rfl
theorem strings_makeASCIISet_ok {w0 : World} {H0 : Hp} (hw : Holds w0 H0) (p_s : Str) {r : Unit} (h : strings_makeASCIISet p_s = some r) :
    Con Tryd.prog 92 [(str p_s)] w0 H0 (fun H' v => v = (.tuple ⟨[(.agg (Lib.setCells p_s)), (boo true)]⟩)) :=
  mkSetCon Tryd.func92 rfl (by kernel_rfl) hw h (Tryd.strings_makeASCIISet (fun w => (Tryd.zeroValue93 w).trans (by kernel_rfl)))
theorem strings_asciiSet_contains_ok {w0 : World} {H0 : Hp} (hw : Holds w0 H0) (p_as : Str) (p_c : UInt8) {b : Nat} (hA : At H0 ⟨b, 0, none⟩ (setc p_as)) {r : Bool} (h : strings_asciiSet_contains p_as p_c = some r) :
    Con Tryd.prog 98 [(ptr b 0), (byt p_c)] w0 H0 (fun H' v => v = (boo r)) :=
  inSetCon Tryd.func98 rfl (by kernel_rfl) hw hA h Tryd.asciiSet_contains
theorem strings_IndexByte_ok {w0 : World} {H0 : Hp} (hw : Holds w0 H0) (p_s : Str) (p_c : UInt8) {r : Int} (h : strings_IndexByte p_s p_c = some r) :
    Con Tryd.prog 105 [(str p_s), (byt p_c)] w0 H0 (fun H' v => v = (int r)) :=
  ixByteCon Tryd.func105 rfl (by kernel_rfl) hw h Tryd.strings_IndexByte
theorem stringslite_IndexByte_ok {w0 : World} {H0 : Hp} (hw : Holds w0 H0) (p_s : Str) (p_c : UInt8) {r : Int} (h : strings_IndexByte p_s p_c = some r) :
    Con Tryd.prog 109 [(str p_s), (byt p_c)] w0 H0 (fun H' v => v = (int r)) :=
  ixByteCon Tryd.func109 rfl (by kernel_rfl) hw h Tryd.stringslite_IndexByte

set_option maxRecDepth 10000 in
set_option maxHeartbeats 4000000 in
theorem ref01_TokenByte_ok {w0 : World} {H0 : Hp} (hw : Holds w0 H0) (p_c : UInt8) {r : Bool} (h : ref01_TokenByte p_c = some r) :
    Con Tryd.prog 16 [(byt p_c)] w0 H0 (fun H' v => v = (boo r)) := by
  refine Con.mk (N := 34) Tryd.func16 rfl rfl (by kernel_rfl) rfl ?_
  have S := St.start hw
  refine WP.seq ?_
  refine WP.region ?_
  refine WL.valw (R.as (v := (boo false)) rfl) ?_
  refine WL.nil ?_
  refine WP.seq ?_
  refine WP.seq ?_
  refine WP.region ?_
  refine WL.valw (R.mv (v := (byt p_c)) rfl) ?_
  refine WL.valw (R.geq8 (a := p_c) (b := 97) rfl rfl) ?_
  refine WL.valw (R.mv (v := (boo (decide (97 ≤ p_c)))) rfl) ?_
  refine WL.grp 3 [7, 8] 9 (boo ((decide (97 ≤ p_c)) && (decide (p_c ≤ 122)))) ?_ ?_
  · rcases boolE (decide (97 ≤ p_c)) with hb1 | hb1
    · refine WL.gyes rfl rfl hb1 ?_
      refine WL.valw (R.mv (v := (byt p_c)) rfl) ?_
      refine WL.gyes rfl rfl hb1 ?_
      refine WL.valw (R.leq8 (a := p_c) (b := 122) rfl rfl) ?_
      refine WL.valw (R.pickT rfl hb1 rfl) ?_
      exact WL.nil ⟨(andT hb1), (by repeat (first | refine agree_upd rfl ?_ | refine agree_upds' rfl ?_ | exact agree_refl)), rfl⟩
    · refine WL.gno rfl rfl hb1 ?_
      refine WL.gno rfl rfl hb1 ?_
      refine WL.valw (R.pickF rfl hb1 rfl) ?_
      exact WL.nil ⟨(andF hb1), (by repeat (first | refine agree_upd rfl ?_ | refine agree_upds' rfl ?_ | exact agree_refl)), rfl⟩
  · intro us
    refine WL.valw (R.mv (v := (boo ((decide (97 ≤ p_c)) && (decide (p_c ≤ 122))))) rfl) ?_
    refine WL.grp 7 [11, 12, 13, 14, 15, 16] 17 (boo (((decide (97 ≤ p_c)) && (decide (p_c ≤ 122))) || ((decide (65 ≤ p_c)) && (decide (p_c ≤ 90))))) ?_ ?_
    · rcases boolE ((decide (97 ≤ p_c)) && (decide (p_c ≤ 122))) with hb3 | hb3
      · refine WL.gno rfl rfl hb3 ?_
        refine WL.gno rfl rfl hb3 ?_
        refine WL.gno rfl rfl hb3 ?_
        refine WL.gund rfl rfl ?_
        refine WL.gund rfl rfl ?_
        refine WL.gno rfl rfl hb3 ?_
        refine WL.valw (R.pickT rfl hb3 rfl) ?_
        exact WL.nil ⟨(orT hb3), (by repeat (first | refine agree_upd rfl ?_ | refine agree_upds' rfl ?_ | exact agree_refl)), rfl⟩
      · refine WL.gyes rfl rfl hb3 ?_
        refine WL.valw (R.mv (v := (byt p_c)) rfl) ?_
        refine WL.gyes rfl rfl hb3 ?_
        refine WL.valw (R.geq8 (a := p_c) (b := 65) rfl rfl) ?_
        refine WL.gyes rfl rfl hb3 ?_
        refine WL.valw (R.mv (v := (boo (decide (65 ≤ p_c)))) rfl) ?_
        refine WL.grp 3 [14, 15] 16 (boo ((decide (65 ≤ p_c)) && (decide (p_c ≤ 90)))) ?_ ?_
        · rcases boolE (decide (65 ≤ p_c)) with hb5 | hb5
          · refine WL.gyes rfl rfl hb5 ?_
            refine WL.valw (R.mv (v := (byt p_c)) rfl) ?_
            refine WL.gyes rfl rfl hb5 ?_
            refine WL.valw (R.leq8 (a := p_c) (b := 90) rfl rfl) ?_
            refine WL.gyes rfl rfl hb3 ?_
            refine WL.valw (R.pickT rfl hb5 rfl) ?_
            exact WL.nil ⟨(andT hb5), (by repeat (first | refine agree_upd rfl ?_ | refine agree_upds' rfl ?_ | exact agree_refl)), rfl⟩
          · refine WL.gno rfl rfl hb5 ?_
            refine WL.gno rfl rfl hb5 ?_
            refine WL.gyes rfl rfl hb3 ?_
            refine WL.valw (R.pickF rfl hb5 rfl) ?_
            exact WL.nil ⟨(andF hb5), (by repeat (first | refine agree_upd rfl ?_ | refine agree_upds' rfl ?_ | exact agree_refl)), rfl⟩
        · intro us
          refine WL.valw (R.pickF rfl hb3 rfl) ?_
          exact WL.nil ⟨(orF hb3), (by repeat (first | refine agree_upd rfl ?_ | refine agree_upds' rfl ?_ | exact agree_refl)), rfl⟩
    · intro us
      refine WL.valw (R.mv (v := (boo (((decide (97 ≤ p_c)) && (decide (p_c ≤ 122))) || ((decide (65 ≤ p_c)) && (decide (p_c ≤ 90)))))) rfl) ?_
      refine WL.grp 7 [19, 20, 21, 22, 23, 24] 25 (boo ((((decide (97 ≤ p_c)) && (decide (p_c ≤ 122))) || ((decide (65 ≤ p_c)) && (decide (p_c ≤ 90)))) || ((decide (48 ≤ p_c)) && (decide (p_c ≤ 57))))) ?_ ?_
      · rcases boolE (((decide (97 ≤ p_c)) && (decide (p_c ≤ 122))) || ((decide (65 ≤ p_c)) && (decide (p_c ≤ 90)))) with hb7 | hb7
        · refine WL.gno rfl rfl hb7 ?_
          refine WL.gno rfl rfl hb7 ?_
          refine WL.gno rfl rfl hb7 ?_
          refine WL.gund rfl rfl ?_
          refine WL.gund rfl rfl ?_
          refine WL.gno rfl rfl hb7 ?_
          refine WL.valw (R.pickT rfl hb7 rfl) ?_
          exact WL.nil ⟨(orT hb7), (by repeat (first | refine agree_upd rfl ?_ | refine agree_upds' rfl ?_ | exact agree_refl)), rfl⟩
        · refine WL.gyes rfl rfl hb7 ?_
          refine WL.valw (R.mv (v := (byt p_c)) rfl) ?_
          refine WL.gyes rfl rfl hb7 ?_
          refine WL.valw (R.geq8 (a := p_c) (b := 48) rfl rfl) ?_
          refine WL.gyes rfl rfl hb7 ?_
          refine WL.valw (R.mv (v := (boo (decide (48 ≤ p_c)))) rfl) ?_
          refine WL.grp 3 [22, 23] 24 (boo ((decide (48 ≤ p_c)) && (decide (p_c ≤ 57)))) ?_ ?_
          · rcases boolE (decide (48 ≤ p_c)) with hb9 | hb9
            · refine WL.gyes rfl rfl hb9 ?_
              refine WL.valw (R.mv (v := (byt p_c)) rfl) ?_
              refine WL.gyes rfl rfl hb9 ?_
              refine WL.valw (R.leq8 (a := p_c) (b := 57) rfl rfl) ?_
              refine WL.gyes rfl rfl hb7 ?_
              refine WL.valw (R.pickT rfl hb9 rfl) ?_
              exact WL.nil ⟨(andT hb9), (by repeat (first | refine agree_upd rfl ?_ | refine agree_upds' rfl ?_ | exact agree_refl)), rfl⟩
            · refine WL.gno rfl rfl hb9 ?_
              refine WL.gno rfl rfl hb9 ?_
              refine WL.gyes rfl rfl hb7 ?_
              refine WL.valw (R.pickF rfl hb9 rfl) ?_
              exact WL.nil ⟨(andF hb9), (by repeat (first | refine agree_upd rfl ?_ | refine agree_upds' rfl ?_ | exact agree_refl)), rfl⟩
          · intro us
            refine WL.valw (R.pickF rfl hb7 rfl) ?_
            exact WL.nil ⟨(orF hb7), (by repeat (first | refine agree_upd rfl ?_ | refine agree_upds' rfl ?_ | exact agree_refl)), rfl⟩
      · intro us
        refine WL.nil ?_
        rcases condE h with ⟨hc11, h⟩ | ⟨hc11, h⟩
        · refine WP.condT rfl hc11 ?_
          refine WP.seq ?_
          refine WP.region ?_
          refine WL.valw (R.as (v := (boo true)) rfl) ?_
          refine WL.nil ?_
          obtain rfl := Option.some.inj h
          refine WP.ret (Out.one rfl S rfl ?_)
          exact rfl
        · refine WP.condF rfl hc11 ?_
          refine WP.skip ?_
          refine WP.seq ?_
          refine WP.seq ?_
          refine WP.region ?_
          refine WL.valw (R.as (v := (int 0)) rfl) ?_
          refine WL.nil ?_
          obtain ⟨r20, hr21, h⟩ := bindE h
          refine WP.cut (fun f w => match r20 with | .inl _ => ∃ (H16 : Hp), St w0 H0 w H16 [] | .inr _ => False) ?_ ?_
          · refine WP.block ?_
            refine WP.loopM (ref01_TokenByte_L0 p_c) (fun s f w => match s with | i_14 => ∃ (H12 : Hp), f 0 = (byt p_c) ∧ f 3 = (int i_14) ∧ St w0 H0 w H12 []) 0 r20 hr21 ?_ ?_
            · exact ⟨H0, rfl, rfl, S⟩
            · intro i_14 f w hI y17 hy18 hy19
              obtain ⟨H12, h13, h15, S⟩ := hI
              refine WP.seq ?_
              refine WP.seq ?_
              refine WP.region ?_
              refine WL.valw (R.mv (v := (int i_14)) h15) ?_
              refine WL.valw (R.lss rfl rfl) ?_
              refine WL.nil ?_
              rcases condE hy18 with ⟨hc22, hy18⟩ | ⟨hc22, hy18⟩
              · refine WP.condT rfl hc22 ?_
                refine WP.skip ?_
                refine WP.seq ?_
                refine WP.block ?_
                refine WP.seq ?_
                refine WP.region ?_
                refine WL.valw (R.mv (v := (int i_14)) h15) ?_
                obtain ⟨c23, hc23, hy18⟩ := bindE hy18
                refine WL.valw (R.idxS rfl rfl Tryd.underlying9 hc23) ?_
                refine WL.valw (R.mv (v := (byt p_c)) h13) ?_
                refine WL.valw (R.eql8 (a := c23) (b := p_c) rfl rfl) ?_
                refine WL.nil ?_
                rcases condE hy18 with ⟨hc24, hy18⟩ | ⟨hc24, hy18⟩
                · refine WP.condT rfl hc24 ?_
                  refine WP.seq ?_
                  refine WP.region ?_
                  refine WL.valw (R.as (v := (boo true)) rfl) ?_
                  refine WL.nil ?_
                  obtain rfl := Option.some.inj hy18
                  obtain rfl := hy19
                  obtain rfl := Option.some.inj h
                  refine WP.ret (Out.one rfl S rfl ?_)
                  exact rfl
                · refine WP.condF rfl hc24 ?_
                  refine WP.skip ?_
                  refine WP.region ?_
                  refine WL.valw (R.mv (v := (int i_14)) h15) ?_
                  refine WL.valw (R.add rfl rfl) ?_
                  refine WL.valw (R.as (v := (int (wr (i_14 + 1)))) rfl) ?_
                  refine WL.nil ?_
                  obtain rfl := Option.some.inj hy18
                  exact ⟨rfl, ⟨H12, h13, rfl, S⟩⟩
              · refine WP.condF rfl hc22 ?_
                refine WP.exit ?_
                obtain rfl := Option.some.inj hy18
                obtain rfl := hy19
                exact ⟨H12, S⟩
          · intro f w hM
            rcases r20 with _ | e
            · obtain ⟨H16, S⟩ := hM
              refine WP.seq ?_
              refine WP.region ?_
              refine WL.valw (R.as (v := (boo false)) rfl) ?_
              refine WL.nil ?_
              obtain rfl := Option.some.inj h
              refine WP.ret (Out.one rfl S rfl ?_)
              exact rfl
            · exact hM.elim
set_option maxRecDepth 10000 in
set_option maxHeartbeats 4000000 in
theorem ref01_Token_ok {w0 : World} {H0 : Hp} (hw : Holds w0 H0) (p_s : Str) {r : Bool} (h : ref01_Token p_s = some r) :
    Con Tryd.prog 14 [(str p_s)] w0 H0 (fun H' v => v = (boo r)) := by
  refine Con.mk (N := 17) Tryd.func14 rfl rfl (by kernel_rfl) rfl ?_
  have S := St.start hw
  refine WP.seq ?_
  refine WP.region ?_
  refine WL.valw (R.as (v := (boo false)) rfl) ?_
  refine WL.nil ?_
  refine WP.seq ?_
  refine WP.seq ?_
  refine WP.region ?_
  refine WL.valw (R.as (v := (int 0)) rfl) ?_
  refine WL.nil ?_
  obtain ⟨r10, hr11, h⟩ := bindE h
  refine WP.cut (fun f w => match r10 with | .inl _ => ∃ (H5 : Hp), f 0 = (str p_s) ∧ St w0 H0 w H5 [] | .inr _ => False) ?_ ?_
  · refine WP.block ?_
    refine WP.loopM (ref01_Token_L0 p_s) (fun s f w => match s with | i_3 => ∃ (H1 : Hp), f 0 = (str p_s) ∧ f 3 = (int i_3) ∧ St w0 H0 w H1 []) 0 r10 hr11 ?_ ?_
    · exact ⟨H0, rfl, rfl, S⟩
    · intro i_3 f w hI y7 hy8 hy9
      obtain ⟨H1, h2, h4, S⟩ := hI
      refine WP.seq ?_
      refine WP.seq ?_
      refine WP.region ?_
      refine WL.valw (R.mv (v := (int i_3)) h4) ?_
      refine WL.valw (R.mv (v := (str p_s)) h2) ?_
      refine WL.valw (R.lenS (a := p_s) rfl Tryd.underlying9) ?_
      refine WL.valw (R.lss rfl rfl) ?_
      refine WL.nil ?_
      rcases condE hy8 with ⟨hc12, hy8⟩ | ⟨hc12, hy8⟩
      · refine WP.condT rfl hc12 ?_
        refine WP.skip ?_
        refine WP.seq ?_
        refine WP.block ?_
        refine WP.seq ?_
        refine WP.region ?_
        refine WL.valw (R.mv (v := (str p_s)) h2) ?_
        refine WL.valw (R.mv (v := (int i_3)) h4) ?_
        obtain ⟨c13, hc13, hy8⟩ := bindE hy8
        refine WL.valw (R.idxS rfl rfl Tryd.underlying9 hc13) ?_
        obtain ⟨r14, hr14, hy8⟩ := bindE hy8
        refine W.call S rfl (ref01_TokenByte_ok S.holds c13 hr14) ?_
        rintro v15 w16 H17 hle18 S rfl
        refine WL.valw (R.not rfl) ?_
        refine WL.nil ?_
        rcases condE hy8 with ⟨hc19, hy8⟩ | ⟨hc19, hy8⟩
        · refine WP.condT rfl hc19 ?_
          refine WP.seq ?_
          refine WP.region ?_
          refine WL.valw (R.as (v := (boo false)) rfl) ?_
          refine WL.nil ?_
          obtain rfl := Option.some.inj hy8
          obtain rfl := hy9
          obtain rfl := Option.some.inj h
          refine WP.ret (Out.one rfl S rfl ?_)
          exact rfl
        · refine WP.condF rfl hc19 ?_
          refine WP.skip ?_
          refine WP.region ?_
          refine WL.valw (R.mv (v := (int i_3)) h4) ?_
          refine WL.valw (R.add rfl rfl) ?_
          refine WL.valw (R.as (v := (int (wr (i_3 + 1)))) rfl) ?_
          refine WL.nil ?_
          obtain rfl := Option.some.inj hy8
          exact ⟨rfl, ⟨H17, h2, rfl, S⟩⟩
      · refine WP.condF rfl hc12 ?_
        refine WP.exit ?_
        obtain rfl := Option.some.inj hy8
        obtain rfl := hy9
        exact ⟨H1, h2, S⟩
  · intro f w hM
    rcases r10 with _ | e
    · obtain ⟨H5, h6, S⟩ := hM
      refine WP.seq ?_
      refine WP.region ?_
      refine WL.valw (R.mv (v := (str p_s)) h6) ?_
      refine WL.valw (R.neqS (a := p_s) (b := []) rfl rfl) ?_
      refine WL.valw (R.as (v := (boo (p_s != []))) rfl) ?_
      refine WL.nil ?_
      obtain rfl := Option.some.inj h
      refine WP.ret (Out.one rfl S rfl ?_)
      exact rfl
    · exact hM.elim
set_option maxRecDepth 10000 in
set_option maxHeartbeats 4000000 in
theorem ref01_Cut_ok {w0 : World} {H0 : Hp} (hw : Holds w0 H0) (p_s : Str) (p_at : UInt8) {r : (List Str)} (h : ref01_Cut p_s p_at = some r) :
    Con Tryd.prog 38 [(str p_s), (byt p_at)] w0 H0 (fun H' v => Sl (α := Str) H' v r) := by
  refine Con.mk (N := 57) Tryd.func38 rfl rfl (by kernel_rfl) rfl ?_
  have S := St.start hw
  refine WP.seq ?_
  refine WP.region ?_
  refine WL.valw (R.as (v := (.slice none 0 0)) rfl) ?_
  refine WL.nil ?_
  refine WP.seq ?_
  refine WP.region ?_
  refine WL.valw (R.as (v := (.slice none 0 0)) rfl) ?_
  refine WL.nil ?_
  refine WP.seq ?_
  refine WP.region ?_
  refine WL.valw (R.as (v := (int 0)) rfl) ?_
  refine WL.valw (R.as (v := (boo false)) rfl) ?_
  refine WL.nil ?_
  refine WP.seq ?_
  refine WP.seq ?_
  refine WP.region ?_
  refine WL.valw (R.as (v := (int 0)) rfl) ?_
  refine WL.nil ?_
  have S := S.addNil 9 1
  obtain ⟨r25, hr26, h⟩ := bindE h
  refine WP.cut (fun f w => match r25 with | (out_16, from_20) => ∃ (H14 : Hp) (v17 : Value), f 0 = (str p_s) ∧ f 5 = v17 ∧ f 6 = (int from_20) ∧ Sl (α := Str) H14 v17 out_16 ∧ St w0 H0 w H14 [.row v17 9 1 out_16.length]) ?_ ?_
  · refine WP.block ?_
    refine WP.loopM (ref01_Cut_L0 p_s p_at) (fun s f w => match s with | (out_4, from_8, quoted_10, i_12) => ∃ (H1 : Hp) (v5 : Value), f 0 = (str p_s) ∧ f 1 = (byt p_at) ∧ f 5 = v5 ∧ f 6 = (int from_8) ∧ f 7 = (boo quoted_10) ∧ f 8 = (int i_12) ∧ Sl (α := Str) H1 v5 out_4 ∧ St w0 H0 w H1 [.row v5 9 1 out_4.length]) (([] : List Str), 0, false, 0) r25 hr26 ?_ ?_
    · exact ⟨H0, .slice none 0 0, rfl, rfl, rfl, rfl, rfl, rfl, Sl.nil, S⟩
    · intro s f w hI y22 hy23 hy24
      obtain ⟨out_4, from_8, quoted_10, i_12⟩ := s
      obtain ⟨H1, v5, h2, h3, h7, h9, h11, h13, R6, S⟩ := hI
      refine WP.seq ?_
      refine WP.seq ?_
      refine WP.region ?_
      refine WL.valw (R.mv (v := (int i_12)) h13) ?_
      refine WL.valw (R.mv (v := (str p_s)) h2) ?_
      refine WL.valw (R.lenS (a := p_s) rfl Tryd.underlying9) ?_
      refine WL.valw (R.lss rfl rfl) ?_
      refine WL.nil ?_
      rcases condE hy23 with ⟨hc27, hy23⟩ | ⟨hc27, hy23⟩
      · refine WP.condT rfl hc27 ?_
        refine WP.skip ?_
        refine WP.seq ?_
        refine WP.block ?_
        refine WP.block ?_
        refine WP.seq ?_
        refine WP.region ?_
        refine WL.valw (R.mv (v := (boo quoted_10)) h11) ?_
        refine WL.valw (R.mv (v := (boo quoted_10)) rfl) ?_
        obtain ⟨b31, hg29, hy23⟩ := bindE hy23
        refine WL.grp 5 [18, 19, 20, 21] 22 (boo b31) ?_ ?_
        · rcases boolE quoted_10 with hb28 | hb28
          · replace hg29 := condT hg29 hb28
            refine WL.gyes rfl rfl hb28 ?_
            refine WL.valw (R.mv (v := (str p_s)) h2) ?_
            refine WL.gyes rfl rfl hb28 ?_
            refine WL.valw (R.mv (v := (int i_12)) h13) ?_
            refine WL.gyes rfl rfl hb28 ?_
            obtain ⟨c30, hc30, hg29⟩ := bindE hg29
            refine WL.valw (R.idxS rfl rfl Tryd.underlying9 hc30) ?_
            refine WL.gyes rfl rfl hb28 ?_
            refine WL.valw (R.eql8 (a := c30) (b := 92) rfl rfl) ?_
            refine WL.valw (R.pickT rfl hb28 rfl) ?_
            exact WL.nil ⟨(congrArg boo (Option.some.inj hg29)), (by repeat (first | refine agree_upd rfl ?_ | refine agree_upds' rfl ?_ | exact agree_refl)), rfl⟩
          · replace hg29 := condF hg29 hb28
            refine WL.gno rfl rfl hb28 ?_
            refine WL.gno rfl rfl hb28 ?_
            refine WL.gno rfl rfl hb28 ?_
            refine WL.gno rfl rfl hb28 ?_
            refine WL.valw (R.pickF rfl hb28 rfl) ?_
            exact WL.nil ⟨(congrArg boo (Option.some.inj hg29)), (by repeat (first | refine agree_upd rfl ?_ | refine agree_upds' rfl ?_ | exact agree_refl)), rfl⟩
        · intro us
          refine WL.valw (R.as (v := (boo b31)) rfl) ?_
          refine WL.nil ?_
          rcases condE hy23 with ⟨hc32, hy23⟩ | ⟨hc32, hy23⟩
          · refine WP.condT rfl hc32 ?_
            refine WP.region ?_
            refine WL.valw (R.mv (v := (int i_12)) h13) ?_
            refine WL.valw (R.add rfl rfl) ?_
            refine WL.valw (R.as (v := (int (wr (i_12 + 1)))) rfl) ?_
            refine WL.nil ?_
            refine WP.region ?_
            refine WL.valw (R.mv (v := (int (wr (i_12 + 1)))) rfl) ?_
            refine WL.valw (R.add rfl rfl) ?_
            refine WL.valw (R.as (v := (int (wr ((wr (i_12 + 1)) + 1)))) rfl) ?_
            refine WL.nil ?_
            obtain rfl := Option.some.inj hy23
            exact ⟨rfl, ⟨H1, v5, h2, h3, h7, h9, h11, rfl, R6, S⟩⟩
          · refine WP.condF rfl hc32 ?_
            refine WP.seq ?_
            refine WP.region ?_
            refine WL.valw (R.mv (v := (str p_s)) h2) ?_
            refine WL.valw (R.mv (v := (int i_12)) h13) ?_
            obtain ⟨c33, hc33, hy23⟩ := bindE hy23
            refine WL.valw (R.idxS rfl rfl Tryd.underlying9 hc33) ?_
            refine WL.valw (R.eql8 (a := c33) (b := 34) rfl rfl) ?_
            refine WL.valw (R.as (v := (boo (c33 == 34))) rfl) ?_
            refine WL.nil ?_
            rcases condE hy23 with ⟨hc34, hy23⟩ | ⟨hc34, hy23⟩
            · refine WP.condT rfl hc34 ?_
              refine WP.region ?_
              refine WL.valw (R.mv (v := (boo quoted_10)) h11) ?_
              refine WL.valw (R.not rfl) ?_
              refine WL.valw (R.as (v := (boo (!quoted_10))) rfl) ?_
              refine WL.nil ?_
              refine WP.region ?_
              refine WL.valw (R.mv (v := (int i_12)) h13) ?_
              refine WL.valw (R.add rfl rfl) ?_
              refine WL.valw (R.as (v := (int (wr (i_12 + 1)))) rfl) ?_
              refine WL.nil ?_
              obtain rfl := Option.some.inj hy23
              exact ⟨rfl, ⟨H1, v5, h2, h3, h7, h9, rfl, rfl, R6, S⟩⟩
            · refine WP.condF rfl hc34 ?_
              refine WP.seq ?_
              refine WP.region ?_
              refine WL.valw (R.mv (v := (str p_s)) h2) ?_
              refine WL.valw (R.mv (v := (int i_12)) h13) ?_
              obtain ⟨c35, hc35, hy23⟩ := bindE hy23
              refine WL.valw (R.idxS rfl rfl Tryd.underlying9 hc35) ?_
              refine WL.valw (R.mv (v := (byt p_at)) h3) ?_
              refine WL.valw (R.eql8 (a := c35) (b := p_at) rfl rfl) ?_
              refine WL.valw (R.mv (v := (boo (c35 == p_at))) rfl) ?_
              refine WL.grp 3 [39, 40] 41 (boo ((c35 == p_at) && (!quoted_10))) ?_ ?_
              · rcases boolE (c35 == p_at) with hb36 | hb36
                · refine WL.gyes rfl rfl hb36 ?_
                  refine WL.valw (R.mv (v := (boo quoted_10)) h11) ?_
                  refine WL.gyes rfl rfl hb36 ?_
                  refine WL.valw (R.not rfl) ?_
                  refine WL.valw (R.pickT rfl hb36 rfl) ?_
                  exact WL.nil ⟨(andT hb36), (by repeat (first | refine agree_upd rfl ?_ | refine agree_upds' rfl ?_ | exact agree_refl)), rfl⟩
                · refine WL.gno rfl rfl hb36 ?_
                  refine WL.gno rfl rfl hb36 ?_
                  refine WL.valw (R.pickF rfl hb36 rfl) ?_
                  exact WL.nil ⟨(andF hb36), (by repeat (first | refine agree_upd rfl ?_ | refine agree_upds' rfl ?_ | exact agree_refl)), rfl⟩
              · intro us
                refine WL.valw (R.as (v := (boo ((c35 == p_at) && (!quoted_10)))) rfl) ?_
                refine WL.nil ?_
                rcases condE hy23 with ⟨hc38, hy23⟩ | ⟨hc38, hy23⟩
                · refine WP.condT rfl hc38 ?_
                  refine WP.seq ?_
                  refine WP.region ?_
                  refine WL.valw (R.mv (v := v5) h7) ?_
                  refine WL.valw (R.mv (v := (str p_s)) h2) ?_
                  refine WL.valw (R.mv (v := (int from_8)) h9) ?_
                  refine WL.valw (R.mv (v := (int i_12)) h13) ?_
                  obtain ⟨s39, hs39, hy23⟩ := bindE hy23
                  refine WL.valw (R.subS rfl rfl rfl Tryd.underlying9 hs39) ?_
                  refine W.bslice (α := Str) [(str s39)] ([s39] : List Str) S el23 rfl rfl rfl (by decide) (encS ⟨rfl, rfl⟩ enc0) ?_
                  intro u40 w41 H42 hle43 R44 S
                  have R6 := Sl.mono R6 hle43
                  obtain ⟨l45, hl45, hy23⟩ := bindE hy23
                  refine W.app (α := Str) (i := 1) S el23 rfl rfl rfl R6 R44 hl45 ?_
                  intro v46 w47 H48 hle49 R50 S
                  have R6 := Sl.mono R6 hle49
                  have R44 := Sl.mono R44 hle49
                  refine WL.valw (R.as (v := v46) rfl) ?_
                  refine WL.nil ?_
                  refine WP.region ?_
                  refine WL.valw (R.mv (v := (int i_12)) h13) ?_
                  refine WL.valw (R.add rfl rfl) ?_
                  refine WL.valw (R.as (v := (int (wr (i_12 + 1)))) rfl) ?_
                  refine WL.nil ?_
                  refine WP.region ?_
                  refine WL.valw (R.mv (v := (int i_12)) h13) ?_
                  refine WL.valw (R.add rfl rfl) ?_
                  refine WL.valw (R.as (v := (int (wr (i_12 + 1)))) rfl) ?_
                  refine WL.nil ?_
                  obtain rfl := Option.some.inj hy23
                  exact ⟨rfl, ⟨H48, v46, h2, h3, rfl, rfl, h11, rfl, R50, (S.drop _ (.cons _ (.cons_cons _ .slnil)))⟩⟩
                · refine WP.condF rfl hc38 ?_
                  refine WP.skip ?_
                  refine WP.region ?_
                  refine WL.valw (R.mv (v := (int i_12)) h13) ?_
                  refine WL.valw (R.add rfl rfl) ?_
                  refine WL.valw (R.as (v := (int (wr (i_12 + 1)))) rfl) ?_
                  refine WL.nil ?_
                  obtain rfl := Option.some.inj hy23
                  exact ⟨rfl, ⟨H1, v5, h2, h3, h7, h9, h11, rfl, R6, S⟩⟩
      · refine WP.condF rfl hc27 ?_
        refine WP.exit ?_
        obtain rfl := Option.some.inj hy23
        obtain rfl := hy24
        exact ⟨H1, v5, h2, h7, h9, R6, S⟩
  · intro f w hM
    obtain ⟨out_16, from_20⟩ := r25
    obtain ⟨H14, v17, h15, h19, h21, R18, S⟩ := hM
    refine WP.seq ?_
    refine WP.region ?_
    refine WL.valw (R.mv (v := v17) h19) ?_
    refine WL.valw (R.mv (v := (str p_s)) h15) ?_
    refine WL.valw (R.mv (v := (int from_20)) h21) ?_
    obtain ⟨s51, hs51, h⟩ := bindE h
    refine WL.valw (R.subSlo rfl rfl Tryd.underlying9 hs51) ?_
    refine W.bslice (α := Str) [(str s51)] ([s51] : List Str) S el23 rfl rfl rfl (by decide) (encS ⟨rfl, rfl⟩ enc0) ?_
    intro u52 w53 H54 hle55 R56 S
    have R18 := Sl.mono R18 hle55
    obtain ⟨l57, hl57, h⟩ := bindE h
    refine W.app (α := Str) (i := 1) S el23 rfl rfl rfl R18 R56 hl57 ?_
    intro v58 w59 H60 hle61 R62 S
    have R18 := Sl.mono R18 hle61
    have R56 := Sl.mono R56 hle61
    refine WL.valw (R.as (v := v58) rfl) ?_
    refine WL.nil ?_
    obtain rfl := Option.some.inj h
    refine WP.ret (Out.one rfl S rfl ?_)
    exact R62
set_option maxRecDepth 10000 in
set_option maxHeartbeats 4000000 in
theorem ref01_blank_ok {w0 : World} {H0 : Hp} (hw : Holds w0 H0) (p_c : UInt8) {r : Bool} (h : ref01_blank p_c = some r) :
    Con Tryd.prog 60 [(byt p_c)] w0 H0 (fun H' v => v = (boo r)) := by
  refine Con.mk (N := 9) Tryd.func60 rfl rfl (by kernel_rfl) rfl ?_
  have S := St.start hw
  refine WP.seq ?_
  refine WP.region ?_
  refine WL.valw (R.as (v := (boo false)) rfl) ?_
  refine WL.nil ?_
  refine WP.seq ?_
  refine WP.region ?_
  refine WL.valw (R.mv (v := (byt p_c)) rfl) ?_
  refine WL.valw (R.eql8 (a := p_c) (b := 32) rfl rfl) ?_
  refine WL.valw (R.mv (v := (boo (p_c == 32))) rfl) ?_
  refine WL.grp 3 [6, 7] 8 (boo ((p_c == 32) || (p_c == 9))) ?_ ?_
  · rcases boolE (p_c == 32) with hb1 | hb1
    · refine WL.gno rfl rfl hb1 ?_
      refine WL.gno rfl rfl hb1 ?_
      refine WL.valw (R.pickT rfl hb1 rfl) ?_
      exact WL.nil ⟨(orT hb1), (by repeat (first | refine agree_upd rfl ?_ | refine agree_upds' rfl ?_ | exact agree_refl)), rfl⟩
    · refine WL.gyes rfl rfl hb1 ?_
      refine WL.valw (R.mv (v := (byt p_c)) rfl) ?_
      refine WL.gyes rfl rfl hb1 ?_
      refine WL.valw (R.eql8 (a := p_c) (b := 9) rfl rfl) ?_
      refine WL.valw (R.pickF rfl hb1 rfl) ?_
      exact WL.nil ⟨(orF hb1), (by repeat (first | refine agree_upd rfl ?_ | refine agree_upds' rfl ?_ | exact agree_refl)), rfl⟩
  · intro us
    refine WL.valw (R.as (v := (boo ((p_c == 32) || (p_c == 9)))) rfl) ?_
    refine WL.nil ?_
    obtain rfl := Option.some.inj h
    refine WP.ret (Out.one rfl S rfl ?_)
    exact rfl
set_option maxRecDepth 10000 in
set_option maxHeartbeats 4000000 in
theorem ref01_Trim_ok {w0 : World} {H0 : Hp} (hw : Holds w0 H0) (p_s : Str) {r : Str} (h : ref01_Trim p_s = some r) :
    Con Tryd.prog 39 [(str p_s)] w0 H0 (fun H' v => v = (str r)) := by
  refine Con.mk (N := 30) Tryd.func39 rfl rfl (by kernel_rfl) rfl ?_
  have S := St.start hw
  refine WP.seq ?_
  refine WP.region ?_
  refine WL.valw (R.as (v := (str [])) rfl) ?_
  refine WL.nil ?_
  refine WP.seq ?_
  obtain ⟨s_5, hr11, h⟩ := bindE h
  refine WP.cut (fun f w => ∃ (H4 : Hp), f 0 = (str s_5) ∧ St w0 H0 w H4 []) ?_ ?_
  · refine WP.block ?_
    refine WP.loopM (ref01_Trim_L0) (fun s f w => match s with | s_2 => ∃ (H1 : Hp), f 0 = (str s_2) ∧ St w0 H0 w H1 []) p_s s_5 hr11 ?_ ?_
    · exact ⟨H0, rfl, S⟩
    · intro s_2 f w hI y7 hy8 hy9
      obtain ⟨H1, h3, S⟩ := hI
      refine WP.seq ?_
      refine WP.seq ?_
      refine WP.region ?_
      refine WL.valw (R.mv (v := (str s_2)) h3) ?_
      refine WL.valw (R.lenS (a := s_2) rfl Tryd.underlying9) ?_
      refine WL.valw (R.gtr rfl rfl) ?_
      refine WL.valw (R.mv (v := (boo (decide (0 < (s_2.length : Int))))) rfl) ?_
      obtain ⟨b20, hg13, hy8⟩ := bindE hy8
      refine WL.grpw 4 [7, 8, 9] 10 (boo b20) (fun w => ∃ H' : Hp, H1.le H' ∧ St w0 H0 w H' []) ?_ ?_
      · rcases boolE (decide (0 < (s_2.length : Int))) with hb12 | hb12
        · replace hg13 := condT hg13 hb12
          refine WL.gyes rfl rfl hb12 ?_
          refine WL.valw (R.mv (v := (str s_2)) h3) ?_
          refine WL.gyes rfl rfl hb12 ?_
          obtain ⟨c14, hc14, hg13⟩ := bindE hg13
          refine WL.valw (R.idxS rfl rfl Tryd.underlying9 hc14) ?_
          refine WL.gyes rfl rfl hb12 ?_
          obtain ⟨r15, hr15, hg13⟩ := bindE hg13
          refine W.call S rfl (ref01_blank_ok S.holds c14 hr15) ?_
          rintro v16 w17 H18 hle19 S rfl
          refine WL.valw (R.pickT rfl hb12 rfl) ?_
          exact WL.nil ⟨(congrArg boo (Option.some.inj hg13)), (by repeat (first | refine agree_upd rfl ?_ | refine agree_upds' rfl ?_ | exact agree_refl)), ⟨H18, hle19, S⟩⟩
        · replace hg13 := condF hg13 hb12
          refine WL.gno rfl rfl hb12 ?_
          refine WL.gno rfl rfl hb12 ?_
          refine WL.gno rfl rfl hb12 ?_
          refine WL.valw (R.pickF rfl hb12 rfl) ?_
          exact WL.nil ⟨(congrArg boo (Option.some.inj hg13)), (by repeat (first | refine agree_upd rfl ?_ | refine agree_upds' rfl ?_ | exact agree_refl)), ⟨H1, (Hp.le.refl _), S⟩⟩
      · intro us w22 ⟨H21, hle23, S⟩
        refine WL.nil ?_
        rcases condE hy8 with ⟨hc24, hy8⟩ | ⟨hc24, hy8⟩
        · refine WP.condT rfl hc24 ?_
          refine WP.skip ?_
          refine WP.block ?_
          refine WP.region ?_
          refine WL.valw (R.mv (v := (str s_2)) h3) ?_
          obtain ⟨s25, hs25, hy8⟩ := bindE hy8
          refine WL.valw (R.subSlo rfl rfl Tryd.underlying9 hs25) ?_
          refine WL.valw (R.as (v := (str s25)) rfl) ?_
          refine WL.nil ?_
          obtain rfl := Option.some.inj hy8
          exact ⟨rfl, ⟨H21, rfl, S⟩⟩
        · refine WP.condF rfl hc24 ?_
          refine WP.exit ?_
          obtain rfl := Option.some.inj hy8
          obtain rfl := hy9
          exact ⟨H21, h3, S⟩
  · rintro f w ⟨H4, h6, S⟩
    refine WP.seq ?_
    obtain ⟨s_30, hr36, h⟩ := bindE h
    refine WP.cut (fun f w => ∃ (H29 : Hp), f 0 = (str s_30) ∧ St w0 H0 w H29 []) ?_ ?_
    · refine WP.block ?_
      refine WP.loopM (ref01_Trim_L1) (fun s f w => match s with | s_27 => ∃ (H26 : Hp), f 0 = (str s_27) ∧ St w0 H0 w H26 []) s_5 s_30 hr36 ?_ ?_
      · exact ⟨H4, h6, S⟩
      · intro s_27 f w hI y32 hy33 hy34
        obtain ⟨H26, h28, S⟩ := hI
        refine WP.seq ?_
        refine WP.seq ?_
        refine WP.region ?_
        refine WL.valw (R.mv (v := (str s_27)) h28) ?_
        refine WL.valw (R.lenS (a := s_27) rfl Tryd.underlying9) ?_
        refine WL.valw (R.gtr rfl rfl) ?_
        refine WL.valw (R.mv (v := (boo (decide (0 < (s_27.length : Int))))) rfl) ?_
        obtain ⟨b45, hg38, hy33⟩ := bindE hy33
        refine WL.grpw 7 [17, 18, 19, 20, 21, 22] 23 (boo b45) (fun w => ∃ H' : Hp, H26.le H' ∧ St w0 H0 w H' []) ?_ ?_
        · rcases boolE (decide (0 < (s_27.length : Int))) with hb37 | hb37
          · replace hg38 := condT hg38 hb37
            refine WL.gyes rfl rfl hb37 ?_
            refine WL.valw (R.mv (v := (str s_27)) h28) ?_
            refine WL.gyes rfl rfl hb37 ?_
            refine WL.valw (R.mv (v := (str s_27)) h28) ?_
            refine WL.gyes rfl rfl hb37 ?_
            refine WL.valw (R.lenS (a := s_27) rfl Tryd.underlying9) ?_
            refine WL.gyes rfl rfl hb37 ?_
            refine WL.valw (R.sub rfl rfl) ?_
            refine WL.gyes rfl rfl hb37 ?_
            obtain ⟨c39, hc39, hg38⟩ := bindE hg38
            refine WL.valw (R.idxS rfl rfl Tryd.underlying9 hc39) ?_
            refine WL.gyes rfl rfl hb37 ?_
            obtain ⟨r40, hr40, hg38⟩ := bindE hg38
            refine W.call S rfl (ref01_blank_ok S.holds c39 hr40) ?_
            rintro v41 w42 H43 hle44 S rfl
            refine WL.valw (R.pickT rfl hb37 rfl) ?_
            exact WL.nil ⟨(congrArg boo (Option.some.inj hg38)), (by repeat (first | refine agree_upd rfl ?_ | refine agree_upds' rfl ?_ | exact agree_refl)), ⟨H43, hle44, S⟩⟩
          · replace hg38 := condF hg38 hb37
            refine WL.gno rfl rfl hb37 ?_
            refine WL.gno rfl rfl hb37 ?_
            refine WL.gno rfl rfl hb37 ?_
            refine WL.gno rfl rfl hb37 ?_
            refine WL.gno rfl rfl hb37 ?_
            refine WL.gno rfl rfl hb37 ?_
            refine WL.valw (R.pickF rfl hb37 rfl) ?_
            exact WL.nil ⟨(congrArg boo (Option.some.inj hg38)), (by repeat (first | refine agree_upd rfl ?_ | refine agree_upds' rfl ?_ | exact agree_refl)), ⟨H26, (Hp.le.refl _), S⟩⟩
        · intro us w47 ⟨H46, hle48, S⟩
          refine WL.nil ?_
          rcases condE hy33 with ⟨hc49, hy33⟩ | ⟨hc49, hy33⟩
          · refine WP.condT rfl hc49 ?_
            refine WP.skip ?_
            refine WP.block ?_
            refine WP.region ?_
            refine WL.valw (R.mv (v := (str s_27)) h28) ?_
            refine WL.valw (R.mv (v := (str s_27)) h28) ?_
            refine WL.valw (R.lenS (a := s_27) rfl Tryd.underlying9) ?_
            refine WL.valw (R.sub rfl rfl) ?_
            obtain ⟨s50, hs50, hy33⟩ := bindE hy33
            refine WL.valw (R.subShi rfl rfl Tryd.underlying9 hs50) ?_
            refine WL.valw (R.as (v := (str s50)) rfl) ?_
            refine WL.nil ?_
            obtain rfl := Option.some.inj hy33
            exact ⟨rfl, ⟨H46, rfl, S⟩⟩
          · refine WP.condF rfl hc49 ?_
            refine WP.exit ?_
            obtain rfl := Option.some.inj hy33
            obtain rfl := hy34
            exact ⟨H46, h28, S⟩
    · rintro f w ⟨H29, h31, S⟩
      refine WP.seq ?_
      refine WP.region ?_
      refine WL.valw (R.mv (v := (str s_30)) h31) ?_
      refine WL.valw (R.as (v := (str s_30)) rfl) ?_
      refine WL.nil ?_
      obtain rfl := Option.some.inj h
      refine WP.ret (Out.one rfl S rfl ?_)
      exact rfl
set_option maxRecDepth 10000 in
set_option maxHeartbeats 4000000 in
theorem ref01_Split_ok {w0 : World} {H0 : Hp} (hw : Holds w0 H0) (p_value : Str) {r : (List Str)} (h : ref01_Split p_value = some r) :
    Con Tryd.prog 15 [(str p_value)] w0 H0 (fun H' v => Sl (α := Str) H' v r) := by
  refine Con.mk (N := 32) Tryd.func15 rfl rfl (by kernel_rfl) rfl ?_
  have S := St.start hw
  refine WP.seq ?_
  refine WP.region ?_
  refine WL.valw (R.as (v := (.slice none 0 0)) rfl) ?_
  refine WL.nil ?_
  refine WP.seq ?_
  refine WP.region ?_
  refine WL.valw (R.as (v := (.slice none 0 0)) rfl) ?_
  refine WL.nil ?_
  refine WP.seq ?_
  refine WP.region ?_
  refine WL.valw (R.mv (v := (str p_value)) rfl) ?_
  obtain ⟨r1, hr1, h⟩ := bindE h
  refine W.call S rfl (ref01_Cut_ok S.holds p_value 44 hr1) ?_
  rintro v2 w3 H4 hle5 S R6
  refine WL.valw (R.as (v := v2) rfl) ?_
  refine WL.nil ?_
  refine WP.seq ?_
  refine WP.seq ?_
  refine WP.region ?_
  refine WL.valw (R.as (v := (int 0)) rfl) ?_
  refine WL.nil ?_
  have S := S.addNil 9 1
  obtain ⟨out_16, hr24, h⟩ := bindE h
  refine WP.cut (fun f w => ∃ (H15 : Hp) (v17 : Value), f 3 = v17 ∧ Sl (α := Str) H15 v17 out_16 ∧ St w0 H0 w H15 [.row v17 9 1 out_16.length]) ?_ ?_
  · refine WP.block ?_
    refine WP.loopM (ref01_Split_L0 r1) (fun s f w => match s with | (out_8, i_13) => ∃ (H7 : Hp) (v9 : Value), f 3 = v9 ∧ f 4 = v2 ∧ f 5 = (int i_13) ∧ Sl (α := Str) H7 v9 out_8 ∧ Sl (α := Str) H7 v2 r1 ∧ St w0 H0 w H7 [.row v9 9 1 out_8.length]) (([] : List Str), 0) out_16 hr24 ?_ ?_
    · exact ⟨H4, .slice none 0 0, rfl, rfl, rfl, Sl.nil, R6, S⟩
    · intro s f w hI y20 hy21 hy22
      obtain ⟨out_8, i_13⟩ := s
      obtain ⟨H7, v9, h11, h12, h14, R10, R6, S⟩ := hI
      refine WP.seq ?_
      refine WP.seq ?_
      refine WP.region ?_
      refine WL.valw (R.mv (v := (int i_13)) h14) ?_
      refine WL.valw (R.mv (v := v2) h12) ?_
      refine WL.valw (R.lenL (α := Str) (xs := r1) (H := H7) R6 rfl Tryd.underlying23) ?_
      refine WL.valw (R.lss rfl rfl) ?_
      refine WL.valw (R.mv (v := (boo (decide (i_13 < (r1.length : Int))))) rfl) ?_
      refine WL.grp 4 [14, 15, 16] 17 (boo ((decide (i_13 < (r1.length : Int))) && (decide ((out_8.length : Int) < 64)))) ?_ ?_
      · rcases boolE (decide (i_13 < (r1.length : Int))) with hb25 | hb25
        · refine WL.gyes rfl rfl hb25 ?_
          refine WL.valw (R.mv (v := v9) h11) ?_
          refine WL.gyes rfl rfl hb25 ?_
          refine WL.valw (R.lenL (α := Str) (xs := out_8) (H := H7) R10 rfl Tryd.underlying23) ?_
          refine WL.gyes rfl rfl hb25 ?_
          refine WL.valw (R.lss rfl rfl) ?_
          refine WL.valw (R.pickT rfl hb25 rfl) ?_
          exact WL.nil ⟨(andT hb25), (by repeat (first | refine agree_upd rfl ?_ | refine agree_upds' rfl ?_ | exact agree_refl)), rfl⟩
        · refine WL.gno rfl rfl hb25 ?_
          refine WL.gno rfl rfl hb25 ?_
          refine WL.gno rfl rfl hb25 ?_
          refine WL.valw (R.pickF rfl hb25 rfl) ?_
          exact WL.nil ⟨(andF hb25), (by repeat (first | refine agree_upd rfl ?_ | refine agree_upds' rfl ?_ | exact agree_refl)), rfl⟩
      · intro us
        refine WL.nil ?_
        rcases condE hy21 with ⟨hc27, hy21⟩ | ⟨hc27, hy21⟩
        · refine WP.condT rfl hc27 ?_
          refine WP.skip ?_
          refine WP.seq ?_
          refine WP.block ?_
          refine WP.seq ?_
          refine WP.region ?_
          refine WL.valw (R.mv (v := v2) h12) ?_
          refine WL.valw (R.mv (v := (int i_13)) h14) ?_
          obtain ⟨x28, hx28, hy21⟩ := bindE hy21
          refine W.idx (α := Str) R6 rfl rfl el23 hx28 ?_
          rintro a29 _ hA30 rfl
          refine WL.valw (R.loadH (v := (str x28)) S rfl hA30 lay9 rfl) ?_
          obtain ⟨r31, hr31, hy21⟩ := bindE hy21
          refine W.call S rfl (ref01_Trim_ok S.holds x28 hr31) ?_
          rintro v32 w33 H34 hle35 S rfl
          have R10 := Sl.mono R10 hle35
          have R6 := Sl.mono R6 hle35
          have hA30 := At.mono hA30 hle35 (by simp)
          refine WL.valw (R.as (v := (str r31)) rfl) ?_
          refine WL.nil ?_
          refine WP.seq ?_
          refine WP.region ?_
          refine WL.valw (R.mv (v := (str r31)) rfl) ?_
          refine WL.valw (R.neqS (a := r31) (b := []) rfl rfl) ?_
          refine WL.nil ?_
          rcases condE hy21 with ⟨hc36, hy21⟩ | ⟨hc36, hy21⟩
          · refine WP.condT rfl hc36 ?_
            refine WP.region ?_
            refine WL.valw (R.mv (v := v9) h11) ?_
            refine WL.valw (R.mv (v := (str r31)) rfl) ?_
            refine W.bslice (α := Str) [(str r31)] ([r31] : List Str) S el23 rfl rfl rfl (by decide) (encS ⟨rfl, rfl⟩ enc0) ?_
            intro u37 w38 H39 hle40 R41 S
            have R10 := Sl.mono R10 hle40
            have R6 := Sl.mono R6 hle40
            have hA30 := At.mono hA30 hle40 (by simp)
            obtain ⟨l42, hl42, hy21⟩ := bindE hy21
            refine W.app (α := Str) (i := 1) S el23 rfl rfl rfl R10 R41 hl42 ?_
            intro v43 w44 H45 hle46 R47 S
            have R10 := Sl.mono R10 hle46
            have R6 := Sl.mono R6 hle46
            have hA30 := At.mono hA30 hle46 (by simp)
            have R41 := Sl.mono R41 hle46
            refine WL.valw (R.as (v := v43) rfl) ?_
            refine WL.nil ?_
            refine WP.region ?_
            refine WL.valw (R.mv (v := (int i_13)) h14) ?_
            refine WL.valw (R.add rfl rfl) ?_
            refine WL.valw (R.as (v := (int (wr (i_13 + 1)))) rfl) ?_
            refine WL.nil ?_
            obtain rfl := Option.some.inj hy21
            exact ⟨rfl, ⟨H45, v43, rfl, h12, rfl, R47, R6, (S.drop _ (.cons _ (.cons_cons _ .slnil)))⟩⟩
          · refine WP.condF rfl hc36 ?_
            refine WP.skip ?_
            refine WP.region ?_
            refine WL.valw (R.mv (v := (int i_13)) h14) ?_
            refine WL.valw (R.add rfl rfl) ?_
            refine WL.valw (R.as (v := (int (wr (i_13 + 1)))) rfl) ?_
            refine WL.nil ?_
            obtain rfl := Option.some.inj hy21
            exact ⟨rfl, ⟨H34, v9, h11, h12, rfl, R10, R6, S⟩⟩
        · refine WP.condF rfl hc27 ?_
          refine WP.exit ?_
          obtain rfl := Option.some.inj hy21
          obtain rfl := hy22
          exact ⟨H7, v9, h11, R10, S⟩
  · rintro f w ⟨H15, v17, h19, R18, S⟩
    refine WP.seq ?_
    refine WP.region ?_
    refine WL.valw (R.mv (v := v17) h19) ?_
    refine WL.valw (R.as (v := v17) rfl) ?_
    refine WL.nil ?_
    obtain rfl := Option.some.inj h
    refine WP.ret (Out.one rfl S rfl ?_)
    exact R18
set_option maxRecDepth 10000 in
set_option maxHeartbeats 4000000 in
theorem ref01_Lower_ok {w0 : World} {H0 : Hp} (hw : Holds w0 H0) (p_s : Str) {r : Str} (h : ref01_Lower p_s = some r) :
    Con Tryd.prog 40 [(str p_s)] w0 H0 (fun H' v => v = (str r)) := by
  refine Con.mk (N := 33) Tryd.func40 rfl rfl (by kernel_rfl) rfl ?_
  have S := St.start hw
  refine WP.seq ?_
  refine WP.region ?_
  refine WL.valw (R.as (v := (str [])) rfl) ?_
  refine WL.nil ?_
  refine WP.seq ?_
  refine WP.region ?_
  refine WL.valw (R.mv (v := (str p_s)) rfl) ?_
  refine W.bytes (s := p_s) S rfl Tryd.underlying9 Tryd.underlying51 Tryd.underlying5 ?_
  intro b1 c2 w3 hc2 S
  refine WL.valw (R.as (v := (.slice (some ⟨b1, 0, none⟩) p_s.length c2)) rfl) ?_
  refine WL.nil ?_
  refine WP.seq ?_
  refine WP.seq ?_
  refine WP.region ?_
  refine WL.valw (R.as (v := (int 0)) rfl) ?_
  refine WL.nil ?_
  obtain ⟨m12, hr18, h⟩ := bindE h
  refine WP.cut (fun f w => ∃ (H10 : Hp), f 3 = (.slice (some ⟨b1, 0, none⟩) p_s.length c2) ∧ m12.length = p_s.length ∧ St w0 H0 w H10 [.box b1 5 (m12.map byt)]) ?_ ?_
  · refine WP.block ?_
    refine WP.loopM (ref01_Lower_L0 p_s) (fun s f w => match s with | (i_6, m8) => ∃ (H4 : Hp), f 3 = (.slice (some ⟨b1, 0, none⟩) p_s.length c2) ∧ f 4 = (int i_6) ∧ m8.length = p_s.length ∧ St w0 H0 w H4 [.box b1 5 (m8.map byt)]) (0, p_s) m12 hr18 ?_ ?_
    · exact ⟨H0, rfl, rfl, rfl, S⟩
    · intro s f w hI y14 hy15 hy16
      obtain ⟨i_6, m8⟩ := s
      obtain ⟨H4, h5, h7, hL9, S⟩ := hI
      refine WP.seq ?_
      refine WP.seq ?_
      refine WP.region ?_
      refine WL.valw (R.mv (v := (int i_6)) h7) ?_
      refine WL.valw (R.mv (v := (.slice (some ⟨b1, 0, none⟩) p_s.length c2)) h5) ?_
      refine WL.valw (R.lenV rfl Tryd.underlying51) ?_
      refine WL.valw (R.lss rfl rfl) ?_
      refine WL.nil ?_
      rcases condE hy15 with ⟨hc19, hy15⟩ | ⟨hc19, hy15⟩
      · refine WP.condT rfl hc19 ?_
        refine WP.skip ?_
        refine WP.seq ?_
        refine WP.block ?_
        refine WP.seq ?_
        refine WP.region ?_
        refine WL.valw (R.mv (v := (.slice (some ⟨b1, 0, none⟩) p_s.length c2)) h5) ?_
        refine WL.valw (R.mv (v := (int i_6)) h7) ?_
        obtain ⟨c20, hc20, hy15⟩ := bindE hy15
        have hq21 := (map_byt_get hc20).2
        refine WL.valw (R.idxB rfl rfl el51 (by have := (map_byt_get hc20).2; have hl : m8.length = p_s.length := hL9; omega)) ?_
        obtain ⟨c22, hc22, hy15⟩ := bindE hy15
        refine WL.valw (R.loadB (i := 0) S rfl rfl lay5 (map_byt_get hc22).1) ?_
        refine WL.valw (R.geq8 (a := c22) (b := 65) rfl rfl) ?_
        refine WL.valw (R.mv (v := (boo (decide (65 ≤ c22)))) rfl) ?_
        obtain ⟨b28, hg24, hy15⟩ := bindE hy15
        refine WL.grp 6 [19, 20, 21, 22, 23] 24 (boo b28) ?_ ?_
        · rcases boolE (decide (65 ≤ c22)) with hb23 | hb23
          · replace hg24 := condT hg24 hb23
            refine WL.gyes rfl rfl hb23 ?_
            refine WL.valw (R.mv (v := (.slice (some ⟨b1, 0, none⟩) p_s.length c2)) h5) ?_
            refine WL.gyes rfl rfl hb23 ?_
            refine WL.valw (R.mv (v := (int i_6)) h7) ?_
            refine WL.gyes rfl rfl hb23 ?_
            obtain ⟨c25, hc25, hg24⟩ := bindE hg24
            have hq26 := (map_byt_get hc25).2
            refine WL.valw (R.idxB rfl rfl el51 (by have := (map_byt_get hc25).2; have hl : m8.length = p_s.length := hL9; omega)) ?_
            refine WL.gyes rfl rfl hb23 ?_
            obtain ⟨c27, hc27, hg24⟩ := bindE hg24
            refine WL.valw (R.loadB (i := 0) S rfl rfl lay5 (map_byt_get hc27).1) ?_
            refine WL.gyes rfl rfl hb23 ?_
            refine WL.valw (R.leq8 (a := c27) (b := 90) rfl rfl) ?_
            refine WL.valw (R.pickT rfl hb23 rfl) ?_
            exact WL.nil ⟨(congrArg boo (Option.some.inj hg24)), (by repeat (first | refine agree_upd rfl ?_ | refine agree_upds' rfl ?_ | exact agree_refl)), rfl⟩
          · replace hg24 := condF hg24 hb23
            refine WL.gno rfl rfl hb23 ?_
            refine WL.gno rfl rfl hb23 ?_
            refine WL.gno rfl rfl hb23 ?_
            refine WL.gno rfl rfl hb23 ?_
            refine WL.gno rfl rfl hb23 ?_
            refine WL.valw (R.pickF rfl hb23 rfl) ?_
            exact WL.nil ⟨(congrArg boo (Option.some.inj hg24)), (by repeat (first | refine agree_upd rfl ?_ | refine agree_upds' rfl ?_ | exact agree_refl)), rfl⟩
        · intro us
          refine WL.nil ?_
          rcases condE hy15 with ⟨hc29, hy15⟩ | ⟨hc29, hy15⟩
          · refine WP.condT rfl hc29 ?_
            refine WP.region ?_
            refine WL.valw (R.mv (v := (.slice (some ⟨b1, 0, none⟩) p_s.length c2)) h5) ?_
            refine WL.valw (R.mv (v := (int i_6)) h7) ?_
            obtain ⟨c30, hc30, hy15⟩ := bindE hy15
            have hq31 := (map_byt_get hc30).2
            refine WL.valw (R.idxB rfl rfl el51 (by have := (map_byt_get hc30).2; have hl : m8.length = p_s.length := hL9; omega)) ?_
            obtain ⟨c32, hc32, hy15⟩ := bindE hy15
            refine WL.valw (R.loadB (i := 0) S rfl rfl lay5 (map_byt_get hc32).1) ?_
            refine WL.valw (R.add8 (a := c32) (b := 32) rfl rfl) ?_
            obtain ⟨c33, hc33, hy15⟩ := bindE hy15
            have hq34 := (map_byt_get hc33).2
            refine WL.valw (R.idxB rfl rfl el51 (by have := (map_byt_get hc33).2; have hl : m8.length = p_s.length := hL9; omega)) ?_
            refine W.store (i := 0) ((m8.set i_6.toNat (c32 + 32)).map byt) S rfl rfl rfl lay5 rfl rfl (by rw [List.length_map]; omega) (splice_byt _ _ _ (by omega)) ?_
            intro w35 S
            refine WL.nil ?_
            refine WP.region ?_
            refine WL.valw (R.mv (v := (int i_6)) h7) ?_
            refine WL.valw (R.add rfl rfl) ?_
            refine WL.valw (R.as (v := (int (wr (i_6 + 1)))) rfl) ?_
            refine WL.nil ?_
            obtain rfl := Option.some.inj hy15
            exact ⟨rfl, ⟨H4, h5, rfl, (List.length_set.trans hL9), S⟩⟩
          · refine WP.condF rfl hc29 ?_
            refine WP.skip ?_
            refine WP.region ?_
            refine WL.valw (R.mv (v := (int i_6)) h7) ?_
            refine WL.valw (R.add rfl rfl) ?_
            refine WL.valw (R.as (v := (int (wr (i_6 + 1)))) rfl) ?_
            refine WL.nil ?_
            obtain rfl := Option.some.inj hy15
            exact ⟨rfl, ⟨H4, h5, rfl, hL9, S⟩⟩
      · refine WP.condF rfl hc19 ?_
        refine WP.exit ?_
        obtain rfl := Option.some.inj hy15
        obtain rfl := hy16
        exact ⟨H4, h5, hL9, S⟩
  · rintro f w ⟨H10, h11, hL13, S⟩
    refine WP.seq ?_
    refine WP.region ?_
    refine WL.valw (R.mv (v := (.slice (some ⟨b1, 0, none⟩) p_s.length c2)) h11) ?_
    refine WL.valw (R.strB (i := 0) (s := m12) S (by rw [show m12.length = p_s.length from hL13]; exact rfl) rfl Tryd.underlying51 Tryd.underlying9 Tryd.underlying5) ?_
    refine WL.valw (R.as (v := (str m12)) rfl) ?_
    refine WL.nil ?_
    obtain rfl := Option.some.inj h
    refine WP.ret (Out.one rfl S rfl ?_)
    exact rfl
set_option maxRecDepth 10000 in
set_option maxHeartbeats 4000000 in
theorem ref01_Fold_ok {w0 : World} {H0 : Hp} (hw : Holds w0 H0) (p_a : Str) (p_b : Str) {r : Bool} (h : ref01_Fold p_a p_b = some r) :
    Con Tryd.prog 17 [(str p_a), (str p_b)] w0 H0 (fun H' v => v = (boo r)) := by
  refine Con.mk (N := 17) Tryd.func17 rfl rfl (by kernel_rfl) rfl ?_
  have S := St.start hw
  refine WP.seq ?_
  refine WP.region ?_
  refine WL.valw (R.as (v := (boo false)) rfl) ?_
  refine WL.nil ?_
  refine WP.seq ?_
  refine WP.region ?_
  refine WL.valw (R.mv (v := (str p_a)) rfl) ?_
  refine WL.valw (R.lenS (a := p_a) rfl Tryd.underlying9) ?_
  refine WL.valw (R.mv (v := (str p_b)) rfl) ?_
  refine WL.valw (R.lenS (a := p_b) rfl Tryd.underlying9) ?_
  refine WL.valw (R.eql rfl rfl) ?_
  refine WL.valw (R.mv (v := (boo ((p_a.length : Int) == (p_b.length : Int)))) rfl) ?_
  obtain ⟨b13, hg2, h⟩ := bindE h
  refine WL.grpw 6 [11, 12, 13, 14, 15] 16 (boo b13) (fun w => ∃ H' : Hp, H0.le H' ∧ St w0 H0 w H' []) ?_ ?_
  · rcases boolE ((p_a.length : Int) == (p_b.length : Int)) with hb1 | hb1
    · replace hg2 := condT hg2 hb1
      refine WL.gyes rfl rfl hb1 ?_
      refine WL.valw (R.mv (v := (str p_a)) rfl) ?_
      refine WL.gyes rfl rfl hb1 ?_
      obtain ⟨r3, hr3, hg2⟩ := bindE hg2
      refine W.call S rfl (ref01_Lower_ok S.holds p_a hr3) ?_
      rintro v4 w5 H6 hle7 S rfl
      refine WL.gyes rfl rfl hb1 ?_
      refine WL.valw (R.mv (v := (str p_b)) rfl) ?_
      refine WL.gyes rfl rfl hb1 ?_
      obtain ⟨r8, hr8, hg2⟩ := bindE hg2
      refine W.call S rfl (ref01_Lower_ok S.holds p_b hr8) ?_
      rintro v9 w10 H11 hle12 S rfl
      refine WL.gyes rfl rfl hb1 ?_
      refine WL.valw (R.eqlS (a := r3) (b := r8) rfl rfl) ?_
      refine WL.valw (R.pickT rfl hb1 rfl) ?_
      exact WL.nil ⟨(congrArg boo (Option.some.inj hg2)), (by repeat (first | refine agree_upd rfl ?_ | refine agree_upds' rfl ?_ | exact agree_refl)), ⟨H11, (hle7.trans hle12), S⟩⟩
    · replace hg2 := condF hg2 hb1
      refine WL.gno rfl rfl hb1 ?_
      refine WL.gno rfl rfl hb1 ?_
      refine WL.gno rfl rfl hb1 ?_
      refine WL.gno rfl rfl hb1 ?_
      refine WL.gno rfl rfl hb1 ?_
      refine WL.valw (R.pickF rfl hb1 rfl) ?_
      exact WL.nil ⟨(congrArg boo (Option.some.inj hg2)), (by repeat (first | refine agree_upd rfl ?_ | refine agree_upds' rfl ?_ | exact agree_refl)), ⟨H0, (Hp.le.refl _), S⟩⟩
  · intro us w15 ⟨H14, hle16, S⟩
    refine WL.valw (R.as (v := (boo b13)) rfl) ?_
    refine WL.nil ?_
    obtain rfl := Option.some.inj h
    refine WP.ret (Out.one rfl S rfl ?_)
    exact rfl
set_option maxRecDepth 10000 in
set_option maxHeartbeats 4000000 in
theorem ref01_Quote_ok {w0 : World} {H0 : Hp} (hw : Holds w0 H0) (p_s : Str) {r : Str} (h : ref01_Quote p_s = some r) :
    Con Tryd.prog 18 [(str p_s)] w0 H0 (fun H' v => v = (str r)) := by
  refine Con.mk (N := 35) Tryd.func18 rfl rfl (by kernel_rfl) rfl ?_
  have S := St.start hw
  refine WP.seq ?_
  refine WP.region ?_
  refine WL.valw (R.as (v := (str [])) rfl) ?_
  refine WL.nil ?_
  refine WP.seq ?_
  refine WP.region ?_
  refine W.bslice (α := UInt8) [(byt 34)] ([34] : List UInt8) S el51 rfl rfl rfl (by decide) (encS ⟨rfl, rfl⟩ enc0) ?_
  intro u1 w2 H3 hle4 R5 S
  refine WL.valw (R.as (v := u1) rfl) ?_
  refine WL.nil ?_
  refine WP.seq ?_
  refine WP.seq ?_
  refine WP.region ?_
  refine WL.valw (R.as (v := (int 0)) rfl) ?_
  refine WL.nil ?_
  obtain ⟨b_15, hr23, h⟩ := bindE h
  refine WP.cut (fun f w => ∃ (H14 : Hp) (v16 : Value), f 3 = v16 ∧ Sl (α := UInt8) H14 v16 b_15 ∧ St w0 H0 w H14 [.row v16 5 1 b_15.length]) ?_ ?_
  · refine WP.block ?_
    refine WP.loopM (ref01_Quote_L0 p_s) (fun s f w => match s with | (b_8, i_12) => ∃ (H6 : Hp) (v9 : Value), f 0 = (str p_s) ∧ f 3 = v9 ∧ f 4 = (int i_12) ∧ Sl (α := UInt8) H6 v9 b_8 ∧ St w0 H0 w H6 [.row v9 5 1 b_8.length]) (([34] : List UInt8), 0) b_15 hr23 ?_ ?_
    · exact ⟨H3, u1, rfl, rfl, rfl, R5, S⟩
    · intro s f w hI y19 hy20 hy21
      obtain ⟨b_8, i_12⟩ := s
      obtain ⟨H6, v9, h7, h11, h13, R10, S⟩ := hI
      refine WP.seq ?_
      refine WP.seq ?_
      refine WP.region ?_
      refine WL.valw (R.mv (v := (int i_12)) h13) ?_
      refine WL.valw (R.mv (v := (str p_s)) h7) ?_
      refine WL.valw (R.lenS (a := p_s) rfl Tryd.underlying9) ?_
      refine WL.valw (R.lss rfl rfl) ?_
      refine WL.nil ?_
      rcases condE hy20 with ⟨hc24, hy20⟩ | ⟨hc24, hy20⟩
      · refine WP.condT rfl hc24 ?_
        refine WP.skip ?_
        refine WP.seq ?_
        refine WP.block ?_
        refine WP.seq ?_
        refine WP.seq ?_
        refine WP.region ?_
        refine WL.valw (R.mv (v := (str p_s)) h7) ?_
        refine WL.valw (R.mv (v := (int i_12)) h13) ?_
        obtain ⟨c25, hc25, hy20⟩ := bindE hy20
        refine WL.valw (R.idxS rfl rfl Tryd.underlying9 hc25) ?_
        refine WL.valw (R.eql8 (a := c25) (b := 34) rfl rfl) ?_
        refine WL.valw (R.mv (v := (boo (c25 == 34))) rfl) ?_
        obtain ⟨b29, hg27, hy20⟩ := bindE hy20
        refine WL.grp 5 [17, 18, 19, 20] 21 (boo b29) ?_ ?_
        · rcases boolE (c25 == 34) with hb26 | hb26
          · replace hg27 := condT hg27 hb26
            refine WL.gno rfl rfl hb26 ?_
            refine WL.gno rfl rfl hb26 ?_
            refine WL.gno rfl rfl hb26 ?_
            refine WL.gno rfl rfl hb26 ?_
            refine WL.valw (R.pickT rfl hb26 rfl) ?_
            exact WL.nil ⟨(congrArg boo (Option.some.inj hg27)), (by repeat (first | refine agree_upd rfl ?_ | refine agree_upds' rfl ?_ | exact agree_refl)), rfl⟩
          · replace hg27 := condF hg27 hb26
            refine WL.gyes rfl rfl hb26 ?_
            refine WL.valw (R.mv (v := (str p_s)) h7) ?_
            refine WL.gyes rfl rfl hb26 ?_
            refine WL.valw (R.mv (v := (int i_12)) h13) ?_
            refine WL.gyes rfl rfl hb26 ?_
            obtain ⟨c28, hc28, hg27⟩ := bindE hg27
            refine WL.valw (R.idxS rfl rfl Tryd.underlying9 hc28) ?_
            refine WL.gyes rfl rfl hb26 ?_
            refine WL.valw (R.eql8 (a := c28) (b := 92) rfl rfl) ?_
            refine WL.valw (R.pickF rfl hb26 rfl) ?_
            exact WL.nil ⟨(congrArg boo (Option.some.inj hg27)), (by repeat (first | refine agree_upd rfl ?_ | refine agree_upds' rfl ?_ | exact agree_refl)), rfl⟩
        · intro us
          refine WL.nil ?_
          obtain ⟨b_32, hj37, hy20⟩ := bindE hy20
          refine WP.cut (fun f w => ∃ (H30 : Hp) (v33 : Value), f 0 = (str p_s) ∧ f 3 = v33 ∧ f 4 = (int i_12) ∧ Sl (α := UInt8) H30 v33 b_32 ∧ St w0 H0 w H30 [.row v33 5 1 b_32.length]) ?_ ?_
          · rcases condE hj37 with ⟨hc39, hj37⟩ | ⟨hc39, hj37⟩
            · refine WP.condT rfl hc39 ?_
              refine WP.region ?_
              refine WL.valw (R.mv (v := v9) h11) ?_
              refine W.bslice (α := UInt8) [(byt 92)] ([92] : List UInt8) S el51 rfl rfl rfl (by decide) (encS ⟨rfl, rfl⟩ enc0) ?_
              intro u40 w41 H42 hle43 R44 S
              have R10 := Sl.mono R10 hle43
              obtain ⟨l45, hl45, hj37⟩ := bindE hj37
              refine W.app (α := UInt8) (i := 1) S el51 rfl rfl rfl R10 R44 hl45 ?_
              intro v46 w47 H48 hle49 R50 S
              have R10 := Sl.mono R10 hle49
              have R44 := Sl.mono R44 hle49
              refine WL.valw (R.as (v := v46) rfl) ?_
              refine WL.nil ?_
              obtain rfl := Option.some.inj hj37
              exact ⟨H48, v46, h7, rfl, h13, R50, (S.drop _ (.cons _ (.cons_cons _ .slnil)))⟩
            · refine WP.condF rfl hc39 ?_
              refine WP.skip ?_
              obtain rfl := Option.some.inj hj37
              exact ⟨H6, v9, h7, h11, h13, R10, S⟩
          · rintro f w ⟨H30, v33, h31, h35, h36, R34, S⟩
            refine WP.region ?_
            refine WL.valw (R.mv (v := v33) h35) ?_
            refine WL.valw (R.mv (v := (str p_s)) h31) ?_
            refine WL.valw (R.mv (v := (int i_12)) h36) ?_
            obtain ⟨c51, hc51, hy20⟩ := bindE hy20
            refine WL.valw (R.idxS rfl rfl Tryd.underlying9 hc51) ?_
            refine W.bslice (α := UInt8) [(byt c51)] ([c51] : List UInt8) S el51 rfl rfl rfl (by decide) (encS ⟨rfl, rfl⟩ enc0) ?_
            intro u52 w53 H54 hle55 R56 S
            have R34 := Sl.mono R34 hle55
            obtain ⟨l57, hl57, hy20⟩ := bindE hy20
            refine W.app (α := UInt8) (i := 1) S el51 rfl rfl rfl R34 R56 hl57 ?_
            intro v58 w59 H60 hle61 R62 S
            have R34 := Sl.mono R34 hle61
            have R56 := Sl.mono R56 hle61
            refine WL.valw (R.as (v := v58) rfl) ?_
            refine WL.nil ?_
            refine WP.region ?_
            refine WL.valw (R.mv (v := (int i_12)) h36) ?_
            refine WL.valw (R.add rfl rfl) ?_
            refine WL.valw (R.as (v := (int (wr (i_12 + 1)))) rfl) ?_
            refine WL.nil ?_
            obtain rfl := Option.some.inj hy20
            exact ⟨rfl, ⟨H60, v58, h31, rfl, rfl, R62, (S.drop _ (.cons _ (.cons_cons _ .slnil)))⟩⟩
      · refine WP.condF rfl hc24 ?_
        refine WP.exit ?_
        obtain rfl := Option.some.inj hy20
        obtain rfl := hy21
        exact ⟨H6, v9, h11, R10, S⟩
  · rintro f w ⟨H14, v16, h18, R17, S⟩
    refine WP.seq ?_
    refine WP.region ?_
    refine WL.valw (R.mv (v := v16) h18) ?_
    refine W.bslice (α := UInt8) [(byt 34)] ([34] : List UInt8) S el51 rfl rfl rfl (by decide) (encS ⟨rfl, rfl⟩ enc0) ?_
    intro u63 w64 H65 hle66 R67 S
    have R17 := Sl.mono R17 hle66
    obtain ⟨l68, hl68, h⟩ := bindE h
    refine W.app (α := UInt8) (i := 1) S el51 rfl rfl rfl R17 R67 hl68 ?_
    intro v69 w70 H71 hle72 R73 S
    have R17 := Sl.mono R17 hle72
    have R67 := Sl.mono R67 hle72
    refine WL.valw (R.strL S R73 rfl Tryd.underlying51 Tryd.underlying9 Tryd.underlying5) ?_
    refine WL.valw (R.as (v := (str l68)) rfl) ?_
    refine WL.nil ?_
    obtain rfl := Option.some.inj h
    refine WP.ret (Out.one rfl S rfl ?_)
    exact rfl
set_option maxRecDepth 10000 in
set_option maxHeartbeats 4000000 in
theorem ref01_textByte_ok {w0 : World} {H0 : Hp} (hw : Holds w0 H0) (p_c : UInt8) {r : Bool} (h : ref01_textByte p_c = some r) :
    Con Tryd.prog 41 [(byt p_c)] w0 H0 (fun H' v => v = (boo r)) := by
  refine Con.mk (N := 17) Tryd.func41 rfl rfl (by kernel_rfl) rfl ?_
  have S := St.start hw
  refine WP.seq ?_
  refine WP.region ?_
  refine WL.valw (R.as (v := (boo false)) rfl) ?_
  refine WL.nil ?_
  refine WP.seq ?_
  refine WP.region ?_
  refine WL.valw (R.mv (v := (byt p_c)) rfl) ?_
  refine WL.valw (R.eql8 (a := p_c) (b := 9) rfl rfl) ?_
  refine WL.valw (R.mv (v := (boo (p_c == 9))) rfl) ?_
  refine WL.grp 7 [6, 7, 8, 9, 10, 11] 12 (boo ((p_c == 9) || ((decide (32 ≤ p_c)) && (decide (p_c ≤ 126))))) ?_ ?_
  · rcases boolE (p_c == 9) with hb1 | hb1
    · refine WL.gno rfl rfl hb1 ?_
      refine WL.gno rfl rfl hb1 ?_
      refine WL.gno rfl rfl hb1 ?_
      refine WL.gund rfl rfl ?_
      refine WL.gund rfl rfl ?_
      refine WL.gno rfl rfl hb1 ?_
      refine WL.valw (R.pickT rfl hb1 rfl) ?_
      exact WL.nil ⟨(orT hb1), (by repeat (first | refine agree_upd rfl ?_ | refine agree_upds' rfl ?_ | exact agree_refl)), rfl⟩
    · refine WL.gyes rfl rfl hb1 ?_
      refine WL.valw (R.mv (v := (byt p_c)) rfl) ?_
      refine WL.gyes rfl rfl hb1 ?_
      refine WL.valw (R.geq8 (a := p_c) (b := 32) rfl rfl) ?_
      refine WL.gyes rfl rfl hb1 ?_
      refine WL.valw (R.mv (v := (boo (decide (32 ≤ p_c)))) rfl) ?_
      refine WL.grp 3 [9, 10] 11 (boo ((decide (32 ≤ p_c)) && (decide (p_c ≤ 126)))) ?_ ?_
      · rcases boolE (decide (32 ≤ p_c)) with hb3 | hb3
        · refine WL.gyes rfl rfl hb3 ?_
          refine WL.valw (R.mv (v := (byt p_c)) rfl) ?_
          refine WL.gyes rfl rfl hb3 ?_
          refine WL.valw (R.leq8 (a := p_c) (b := 126) rfl rfl) ?_
          refine WL.gyes rfl rfl hb1 ?_
          refine WL.valw (R.pickT rfl hb3 rfl) ?_
          exact WL.nil ⟨(andT hb3), (by repeat (first | refine agree_upd rfl ?_ | refine agree_upds' rfl ?_ | exact agree_refl)), rfl⟩
        · refine WL.gno rfl rfl hb3 ?_
          refine WL.gno rfl rfl hb3 ?_
          refine WL.gyes rfl rfl hb1 ?_
          refine WL.valw (R.pickF rfl hb3 rfl) ?_
          exact WL.nil ⟨(andF hb3), (by repeat (first | refine agree_upd rfl ?_ | refine agree_upds' rfl ?_ | exact agree_refl)), rfl⟩
      · intro us
        refine WL.valw (R.pickF rfl hb1 rfl) ?_
        exact WL.nil ⟨(orF hb1), (by repeat (first | refine agree_upd rfl ?_ | refine agree_upds' rfl ?_ | exact agree_refl)), rfl⟩
  · intro us
    refine WL.valw (R.mv (v := (boo ((p_c == 9) || ((decide (32 ≤ p_c)) && (decide (p_c ≤ 126)))))) rfl) ?_
    refine WL.grp 3 [14, 15] 16 (boo (((p_c == 9) || ((decide (32 ≤ p_c)) && (decide (p_c ≤ 126)))) || (decide (128 ≤ p_c)))) ?_ ?_
    · rcases boolE ((p_c == 9) || ((decide (32 ≤ p_c)) && (decide (p_c ≤ 126)))) with hb5 | hb5
      · refine WL.gno rfl rfl hb5 ?_
        refine WL.gno rfl rfl hb5 ?_
        refine WL.valw (R.pickT rfl hb5 rfl) ?_
        exact WL.nil ⟨(orT hb5), (by repeat (first | refine agree_upd rfl ?_ | refine agree_upds' rfl ?_ | exact agree_refl)), rfl⟩
      · refine WL.gyes rfl rfl hb5 ?_
        refine WL.valw (R.mv (v := (byt p_c)) rfl) ?_
        refine WL.gyes rfl rfl hb5 ?_
        refine WL.valw (R.geq8 (a := p_c) (b := 128) rfl rfl) ?_
        refine WL.valw (R.pickF rfl hb5 rfl) ?_
        exact WL.nil ⟨(orF hb5), (by repeat (first | refine agree_upd rfl ?_ | refine agree_upds' rfl ?_ | exact agree_refl)), rfl⟩
    · intro us
      refine WL.valw (R.as (v := (boo (((p_c == 9) || ((decide (32 ≤ p_c)) && (decide (p_c ≤ 126)))) || (decide (128 ≤ p_c))))) rfl) ?_
      refine WL.nil ?_
      obtain rfl := Option.some.inj h
      refine WP.ret (Out.one rfl S rfl ?_)
      exact rfl
set_option maxRecDepth 10000 in
set_option maxHeartbeats 4000000 in
theorem ref01_Text_ok {w0 : World} {H0 : Hp} (hw : Holds w0 H0) (p_s : Str) {r : Bool} (h : ref01_Text p_s = some r) :
    Con Tryd.prog 19 [(str p_s)] w0 H0 (fun H' v => v = (boo r)) := by
  refine Con.mk (N := 15) Tryd.func19 rfl rfl (by kernel_rfl) rfl ?_
  have S := St.start hw
  refine WP.seq ?_
  refine WP.region ?_
  refine WL.valw (R.as (v := (boo false)) rfl) ?_
  refine WL.nil ?_
  refine WP.seq ?_
  refine WP.seq ?_
  refine WP.region ?_
  refine WL.valw (R.as (v := (int 0)) rfl) ?_
  refine WL.nil ?_
  obtain ⟨r9, hr10, h⟩ := bindE h
  refine WP.cut (fun f w => match r9 with | .inl _ => ∃ (H5 : Hp), St w0 H0 w H5 [] | .inr _ => False) ?_ ?_
  · refine WP.block ?_
    refine WP.loopM (ref01_Text_L0 p_s) (fun s f w => match s with | i_3 => ∃ (H1 : Hp), f 0 = (str p_s) ∧ f 3 = (int i_3) ∧ St w0 H0 w H1 []) 0 r9 hr10 ?_ ?_
    · exact ⟨H0, rfl, rfl, S⟩
    · intro i_3 f w hI y6 hy7 hy8
      obtain ⟨H1, h2, h4, S⟩ := hI
      refine WP.seq ?_
      refine WP.seq ?_
      refine WP.region ?_
      refine WL.valw (R.mv (v := (int i_3)) h4) ?_
      refine WL.valw (R.mv (v := (str p_s)) h2) ?_
      refine WL.valw (R.lenS (a := p_s) rfl Tryd.underlying9) ?_
      refine WL.valw (R.lss rfl rfl) ?_
      refine WL.nil ?_
      rcases condE hy7 with ⟨hc11, hy7⟩ | ⟨hc11, hy7⟩
      · refine WP.condT rfl hc11 ?_
        refine WP.skip ?_
        refine WP.seq ?_
        refine WP.block ?_
        refine WP.seq ?_
        refine WP.region ?_
        refine WL.valw (R.mv (v := (str p_s)) h2) ?_
        refine WL.valw (R.mv (v := (int i_3)) h4) ?_
        obtain ⟨c12, hc12, hy7⟩ := bindE hy7
        refine WL.valw (R.idxS rfl rfl Tryd.underlying9 hc12) ?_
        obtain ⟨r13, hr13, hy7⟩ := bindE hy7
        refine W.call S rfl (ref01_textByte_ok S.holds c12 hr13) ?_
        rintro v14 w15 H16 hle17 S rfl
        refine WL.valw (R.not rfl) ?_
        refine WL.nil ?_
        rcases condE hy7 with ⟨hc18, hy7⟩ | ⟨hc18, hy7⟩
        · refine WP.condT rfl hc18 ?_
          refine WP.seq ?_
          refine WP.region ?_
          refine WL.valw (R.as (v := (boo false)) rfl) ?_
          refine WL.nil ?_
          obtain rfl := Option.some.inj hy7
          obtain rfl := hy8
          obtain rfl := Option.some.inj h
          refine WP.ret (Out.one rfl S rfl ?_)
          exact rfl
        · refine WP.condF rfl hc18 ?_
          refine WP.skip ?_
          refine WP.region ?_
          refine WL.valw (R.mv (v := (int i_3)) h4) ?_
          refine WL.valw (R.add rfl rfl) ?_
          refine WL.valw (R.as (v := (int (wr (i_3 + 1)))) rfl) ?_
          refine WL.nil ?_
          obtain rfl := Option.some.inj hy7
          exact ⟨rfl, ⟨H16, h2, rfl, S⟩⟩
      · refine WP.condF rfl hc11 ?_
        refine WP.exit ?_
        obtain rfl := Option.some.inj hy7
        obtain rfl := hy8
        exact ⟨H1, S⟩
  · intro f w hM
    rcases r9 with _ | e
    · obtain ⟨H5, S⟩ := hM
      refine WP.seq ?_
      refine WP.region ?_
      refine WL.valw (R.as (v := (boo true)) rfl) ?_
      refine WL.nil ?_
      obtain rfl := Option.some.inj h
      refine WP.ret (Out.one rfl S rfl ?_)
      exact rfl
    · exact hM.elim
set_option maxRecDepth 10000 in
set_option maxHeartbeats 4000000 in
theorem ascii_Lower_ok {w0 : World} {H0 : Hp} (hw : Holds w0 H0) (p_s : Str) {r : Str} (h : ascii_Lower p_s = some r) :
    Con Tryd.prog 64 [(str p_s)] w0 H0 (fun H' v => v = (str r)) := by
  refine Con.mk (N := 30) Tryd.func64 rfl rfl (by kernel_rfl) rfl ?_
  have S := St.start hw
  refine WP.seq ?_
  refine WP.region ?_
  refine WL.valw (R.as (v := (str [])) rfl) ?_
  refine WL.nil ?_
  refine WP.seq ?_
  refine WP.region ?_
  refine WL.valw (R.mv (v := (str p_s)) rfl) ?_
  refine W.bytes (s := p_s) S rfl Tryd.underlying9 Tryd.underlying51 Tryd.underlying5 ?_
  intro b1 c2 w3 hc2 S
  refine WL.valw (R.as (v := (.slice (some ⟨b1, 0, none⟩) p_s.length c2)) rfl) ?_
  refine WL.nil ?_
  refine WP.seq ?_
  refine WP.seq ?_
  refine WP.region ?_
  refine WL.valw (R.mv (v := (.slice (some ⟨b1, 0, none⟩) p_s.length c2)) rfl) ?_
  refine WL.valw (R.lenV rfl Tryd.underlying51) ?_
  refine WL.valw (R.mv (v := (int 0)) rfl) ?_
  refine WL.nil ?_
  obtain ⟨m14, hr20, h⟩ := bindE h
  refine WP.cut (fun f w => ∃ (H12 : Hp), f 3 = (.slice (some ⟨b1, 0, none⟩) p_s.length c2) ∧ m14.length = p_s.length ∧ St w0 H0 w H12 [.box b1 5 (m14.map byt)]) ?_ ?_
  · refine WP.block ?_
    refine WP.loopM (ascii_Lower_L0 p_s) (fun s f w => match s with | (y_8, m10) => ∃ (H4 : Hp), f 3 = (.slice (some ⟨b1, 0, none⟩) p_s.length c2) ∧ f 8 = (.slice (some ⟨b1, 0, none⟩) p_s.length c2) ∧ f 9 = (int (p_s.length : Int)) ∧ f 10 = (int y_8) ∧ m10.length = p_s.length ∧ St w0 H0 w H4 [.box b1 5 (m10.map byt)]) (0, p_s) m14 hr20 ?_ ?_
    · exact ⟨H0, rfl, rfl, rfl, rfl, rfl, S⟩
    · intro s f w hI y16 hy17 hy18
      obtain ⟨y_8, m10⟩ := s
      obtain ⟨H4, h5, h6, h7, h9, hL11, S⟩ := hI
      refine WP.seq ?_
      refine WP.region ?_
      refine WL.valw (R.lss h9 h7) ?_
      refine WL.nil ?_
      refine WP.seq ?_
      rcases condE hy17 with ⟨hc21, hy17⟩ | ⟨hc21, hy17⟩
      · refine WP.condT rfl hc21 ?_
        refine WP.skip ?_
        refine WP.seq ?_
        refine WP.block ?_
        refine WP.seq ?_
        refine WP.region ?_
        refine WL.valw (R.mv (v := (int y_8)) h9) ?_
        obtain ⟨c22, hc22, hy17⟩ := bindE hy17
        have hq23 := (map_byt_get hc22).2
        refine WL.valw (R.idxB h6 h9 el51 (by have := (map_byt_get hc22).2; have hl : m10.length = p_s.length := hL11; omega)) ?_
        obtain ⟨c24, hc24, hy17⟩ := bindE hy17
        refine WL.valw (R.loadB (i := 0) S rfl rfl lay5 (map_byt_get hc24).1) ?_
        refine WL.valw (R.as (v := (int y_8)) rfl) ?_
        refine WL.valw (R.as (v := (byt c24)) rfl) ?_
        refine WL.nil ?_
        refine WP.seq ?_
        refine WP.region ?_
        refine WL.valw (R.mv (v := (byt c24)) rfl) ?_
        refine WL.valw (R.geq8 (a := c24) (b := 65) rfl rfl) ?_
        refine WL.valw (R.mv (v := (boo (decide (65 ≤ c24)))) rfl) ?_
        refine WL.grp 3 [18, 19] 20 (boo ((decide (65 ≤ c24)) && (decide (c24 ≤ 90)))) ?_ ?_
        · rcases boolE (decide (65 ≤ c24)) with hb25 | hb25
          · refine WL.gyes rfl rfl hb25 ?_
            refine WL.valw (R.mv (v := (byt c24)) rfl) ?_
            refine WL.gyes rfl rfl hb25 ?_
            refine WL.valw (R.leq8 (a := c24) (b := 90) rfl rfl) ?_
            refine WL.valw (R.pickT rfl hb25 rfl) ?_
            exact WL.nil ⟨(andT hb25), (by repeat (first | refine agree_upd rfl ?_ | refine agree_upds' rfl ?_ | exact agree_refl)), rfl⟩
          · refine WL.gno rfl rfl hb25 ?_
            refine WL.gno rfl rfl hb25 ?_
            refine WL.valw (R.pickF rfl hb25 rfl) ?_
            exact WL.nil ⟨(andF hb25), (by repeat (first | refine agree_upd rfl ?_ | refine agree_upds' rfl ?_ | exact agree_refl)), rfl⟩
        · intro us
          refine WL.nil ?_
          rcases condE hy17 with ⟨hc27, hy17⟩ | ⟨hc27, hy17⟩
          · refine WP.condT rfl hc27 ?_
            refine WP.region ?_
            refine WL.valw (R.mv (v := (.slice (some ⟨b1, 0, none⟩) p_s.length c2)) h5) ?_
            refine WL.valw (R.mv (v := (int y_8)) rfl) ?_
            refine WL.valw (R.mv (v := (byt c24)) rfl) ?_
            refine WL.valw (R.add8 (a := c24) (b := 97) rfl rfl) ?_
            refine WL.valw (R.sub8 (a := c24 + 97) (b := 65) rfl rfl) ?_
            obtain ⟨c28, hc28, hy17⟩ := bindE hy17
            have hq29 := (map_byt_get hc28).2
            refine WL.valw (R.idxB rfl rfl el51 (by have := (map_byt_get hc28).2; have hl : m10.length = p_s.length := hL11; omega)) ?_
            refine W.store (i := 0) ((m10.set y_8.toNat ((c24 + 97) - 65)).map byt) S rfl rfl rfl lay5 rfl rfl (by rw [List.length_map]; omega) (splice_byt _ _ _ (by omega)) ?_
            intro w30 S
            refine WL.nil ?_
            refine WP.region ?_
            refine WL.valw (R.add h9 rfl) ?_
            refine WL.valw (R.mv (v := (int (wr (y_8 + 1)))) rfl) ?_
            refine WL.nil ?_
            obtain rfl := Option.some.inj hy17
            exact ⟨rfl, ⟨H4, h5, h6, h7, rfl, (List.length_set.trans hL11), S⟩⟩
          · refine WP.condF rfl hc27 ?_
            refine WP.skip ?_
            refine WP.region ?_
            refine WL.valw (R.add h9 rfl) ?_
            refine WL.valw (R.mv (v := (int (wr (y_8 + 1)))) rfl) ?_
            refine WL.nil ?_
            obtain rfl := Option.some.inj hy17
            exact ⟨rfl, ⟨H4, h5, h6, h7, rfl, hL11, S⟩⟩
      · refine WP.condF rfl hc21 ?_
        refine WP.exit ?_
        obtain rfl := Option.some.inj hy17
        obtain rfl := hy18
        exact ⟨H4, h5, hL11, S⟩
  · rintro f w ⟨H12, h13, hL15, S⟩
    refine WP.seq ?_
    refine WP.region ?_
    refine WL.valw (R.mv (v := (.slice (some ⟨b1, 0, none⟩) p_s.length c2)) h13) ?_
    refine WL.valw (R.strB (i := 0) (s := m14) S (by rw [show m14.length = p_s.length from hL15]; exact rfl) rfl Tryd.underlying51 Tryd.underlying9 Tryd.underlying5) ?_
    refine WL.valw (R.as (v := (str m14)) rfl) ?_
    refine WL.nil ?_
    obtain rfl := Option.some.inj h
    refine WP.ret (Out.one rfl S rfl ?_)
    exact rfl
set_option maxRecDepth 10000 in
set_option maxHeartbeats 4000000 in
theorem fieldline_named_1_ok {w0 : World} {H0 : Hp} (hw : Holds w0 H0) (p_f : GField) (c_x0 : Str) {ac_x0 : Addr} (Ac_x0 : At H0 ac_x0 [(str c_x0)]) {r : Bool} (h : fieldline_named_1 p_f c_x0 = some r) :
    Con Tryd.prog 78 [(agg [(str p_f.fName), (str p_f.fValue)]), (.pointer (some ac_x0))] w0 H0 (fun H' v => v = (boo r)) := by
  refine Con.mk (N := 17) Tryd.func78 rfl rfl (by kernel_rfl) rfl ?_
  have S := St.start hw
  refine WP.seq ?_
  refine WP.region ?_
  refine W.box [(str p_f.fName), (str p_f.fValue)] S rfl rfl ?_
  intro b1 w2 S
  refine WL.valw (R.as (v := (boo false)) rfl) ?_
  refine WL.nil ?_
  refine WP.seq ?_
  refine WP.quiet S (by kernel_rfl) (by kernel_rfl) ?_
  refine WQ.val (fun _ _ => (R.fieldB rfl fld26_0)) ?_
  refine WQ.val (fun w hw => by obtain ⟨_, hq, S⟩ := hw; exact (R.loadB (i := 0) (v := (str p_f.fName)) S rfl rfl lay9 rfl)) ?_
  refine WQ.val (fun _ _ => (R.lenS (a := p_f.fName) rfl Tryd.underlying9)) ?_
  refine WQ.val (fun w hw => by obtain ⟨_, hq, S⟩ := hw; exact (R.loadH (v := (str c_x0)) S rfl (At.mono Ac_x0 hq (by simp)) lay9 rfl)) ?_
  refine WQ.val (fun _ _ => (R.lenS (a := c_x0) rfl Tryd.underlying9)) ?_
  refine WQ.val (fun _ _ => (R.eql rfl rfl)) ?_
  refine WQ.val (fun _ _ => (R.mv (v := (boo ((p_f.fName.length : Int) == (c_x0.length : Int)))) rfl)) ?_
  obtain ⟨b13, hg7, h⟩ := bindE h
  refine WQ.grp 6 [11, 12, 13, 14, 15] 16 (boo b13) ?_ ?_
  · rcases boolE ((p_f.fName.length : Int) == (c_x0.length : Int)) with hb6 | hb6
    · replace hg7 := condT hg7 hb6
      refine WQ.gyes rfl rfl hb6 ?_
      refine WQ.val (fun _ _ => (R.fieldB rfl fld26_0)) ?_
      refine WQ.gyes rfl rfl hb6 ?_
      refine WQ.val (fun w hw => by obtain ⟨_, hq, S⟩ := hw; exact (R.loadB (i := 0) (v := (str p_f.fName)) S rfl rfl lay9 rfl)) ?_
      refine WQ.gyes rfl rfl hb6 ?_
      obtain ⟨r8, hr8, hg7⟩ := bindE hg7
      refine WQ.call (v := (str r8)) rfl (fun w H' hq S => ascii_Lower_ok S.holds p_f.fName hr8) ?_
      refine WQ.gyes rfl rfl hb6 ?_
      refine WQ.val (fun w hw => by obtain ⟨_, hq, S⟩ := hw; exact (R.loadH (v := (str c_x0)) S rfl (At.mono Ac_x0 hq (by simp)) lay9 rfl)) ?_
      refine WQ.gyes rfl rfl hb6 ?_
      refine WQ.val (fun _ _ => (R.eqlS (a := r8) (b := c_x0) rfl rfl)) ?_
      refine WQ.val (fun _ _ => (R.pickT rfl hb6 rfl)) ?_
      exact WQ.nil ⟨(congrArg boo (Option.some.inj hg7)), (by repeat (first | refine agree_upd rfl ?_ | refine agree_upds' rfl ?_ | exact agree_refl))⟩
    · replace hg7 := condF hg7 hb6
      refine WQ.gno rfl rfl hb6 ?_
      refine WQ.gno rfl rfl hb6 ?_
      refine WQ.gno rfl rfl hb6 ?_
      refine WQ.gno rfl rfl hb6 ?_
      refine WQ.gno rfl rfl hb6 ?_
      refine WQ.val (fun _ _ => (R.pickF rfl hb6 rfl)) ?_
      exact WQ.nil ⟨(congrArg boo (Option.some.inj hg7)), (by repeat (first | refine agree_upd rfl ?_ | refine agree_upds' rfl ?_ | exact agree_refl))⟩
  · intro us
    refine WQ.val (fun _ _ => (R.as (v := (boo b13)) rfl)) ?_
    refine WQ.nil ?_
    intro w3 H4 hle5 S
    have Ac_x0 := At.mono Ac_x0 hle5 (by simp)
    obtain rfl := Option.some.inj h
    refine WP.ret (Out.one rfl S rfl ?_)
    exact rfl
set_option maxRecDepth 10000 in
set_option maxHeartbeats 4000000 in
theorem fieldline_named_ok {w0 : World} {H0 : Hp} (hw : Holds w0 H0) (p_name : Str) {r : (GField → Option Bool)} (h : fieldline_named p_name = some r) :
    Con Tryd.prog 68 [(str p_name)] w0 H0 (fun H' v => ∃ (k : FuncId) (c : List Value), v = .func (.func k) #[] c.toArray ∧ ∀ {w : World} {H : Hp}, H'.le H → Holds w H → ∀ (x0 : GField) (rr : Bool), r x0 = some rr → Con Tryd.prog k ([(agg [(str x0.fName), (str x0.fValue)])] ++ c) w H (fun H' v => v = (boo rr))) := by
  refine Con.mk (N := 6) Tryd.func68 rfl rfl (by kernel_rfl) rfl ?_
  have S := St.start hw
  refine WP.seq ?_
  refine WP.region ?_
  refine W.box [(str p_name)] S rfl rfl ?_
  intro b1 w2 S
  refine WL.valw (R.as (v := .nilFunc) rfl) ?_
  refine WL.nil ?_
  refine WP.seq ?_
  refine WP.region ?_
  refine WL.valw (R.loadB (i := 0) (v := (str p_name)) S rfl rfl lay9 rfl) ?_
  obtain ⟨r3, hr3, h⟩ := bindE h
  refine W.call S rfl (ascii_Lower_ok S.holds p_name hr3) ?_
  rintro v4 w5 H6 hle7 S rfl
  refine W.store (i := 0) [(str r3)] S rfl rfl rfl lay9 rfl rfl (Nat.le_of_ble_eq_true rfl) rfl ?_
  intro w8 S
  refine WL.nil ?_
  refine WP.seq ?_
  refine WP.region ?_
  obtain ⟨H9, hle10, hs11, _, S⟩ := S.settle (i := 0) rfl
  replace S : St w0 H0 _ H9 [] := S
  have hA12 : At H9 ⟨b1, 0, none⟩ [(str r3)] := ⟨_, _, rfl, hs11, [], by simp⟩
  refine WL.valw (R.mkFunc (vs := [(.pointer (some ⟨b1, 0, none⟩))]) rfl) ?_
  refine WL.valw (R.as (v := (.func (.func 78) #[] [(.pointer (some ⟨b1, 0, none⟩))].toArray)) rfl) ?_
  refine WL.nil ?_
  obtain rfl := Option.some.inj h
  refine WP.ret (Out.one rfl S rfl ?_)
  exact ⟨_, [(.pointer (some ⟨b1, 0, none⟩))], rfl, fun hle hw x0 r h => fieldline_named_1_ok hw x0 r3 (At.mono hA12 hle (by simp)) h⟩
set_option maxRecDepth 10000 in
set_option maxHeartbeats 4000000 in
theorem fieldline_filter_ok {w0 : World} {H0 : Hp} (hw : Holds w0 H0) (p_l : (List GField)) (p_keep : (GField → Option Bool)) {vp_l : Value} {kp_keep : FuncId} {cp_keep : List Value} (Rp_l : Sl (α := GField) H0 vp_l p_l) (Fp_keep : ∀ {w : World} {H : Hp}, H0.le H → Holds w H → ∀ (x0 : GField) (rr : Bool), p_keep x0 = some rr → Con Tryd.prog kp_keep ([(agg [(str x0.fName), (str x0.fValue)])] ++ cp_keep) w H (fun H' v => v = (boo rr))) {r : (List GField)} (h : fieldline_filter p_l p_keep = some r) :
    Con Tryd.prog 67 [vp_l, (.func (.func kp_keep) #[] cp_keep.toArray)] w0 H0 (fun H' v => Sl (α := GField) H' v r) := by
  refine Con.mk (N := 23) Tryd.func67 rfl rfl (by kernel_rfl) rfl ?_
  have S := St.start hw
  refine WP.seq ?_
  refine WP.region ?_
  refine WL.valw (R.as (v := (.slice none 0 0)) rfl) ?_
  refine WL.nil ?_
  refine WP.seq ?_
  refine WP.region ?_
  refine WL.valw (R.as (v := (.slice none 0 0)) rfl) ?_
  refine WL.nil ?_
  refine WP.seq ?_
  refine WP.seq ?_
  refine WP.region ?_
  refine WL.valw (R.mv (v := vp_l) rfl) ?_
  refine WL.valw (R.lenL (α := GField) (xs := p_l) (H := H0) Rp_l rfl Tryd.underlying27) ?_
  refine WL.valw (R.mv (v := (int 0)) rfl) ?_
  refine WL.nil ?_
  have S := S.addNil 26 2
  obtain ⟨out_12, hr20, h⟩ := bindE h
  refine WP.cut (fun f w => ∃ (H11 : Hp) (v13 : Value), f 5 = v13 ∧ Sl (α := GField) H11 v13 out_12 ∧ St w0 H0 w H11 [.row v13 26 2 out_12.length]) ?_ ?_
  · refine WP.block ?_
    refine WP.loopM (fieldline_filter_L0 p_l p_keep) (fun s f w => match s with | (out_3, y_9) => ∃ (H1 : Hp) (v4 : Value), f 1 = (.func (.func kp_keep) #[] cp_keep.toArray) ∧ f 5 = v4 ∧ f 8 = vp_l ∧ f 9 = (int (p_l.length : Int)) ∧ f 10 = (int y_9) ∧ Sl (α := GField) H1 v4 out_3 ∧ Sl (α := GField) H1 vp_l p_l ∧ St w0 H0 w H1 [.row v4 26 2 out_3.length]) (([] : List GField), 0) out_12 hr20 ?_ ?_
    · exact ⟨H0, .slice none 0 0, rfl, rfl, rfl, rfl, rfl, Sl.nil, Rp_l, S⟩
    · intro s f w hI y16 hy17 hy18
      obtain ⟨out_3, y_9⟩ := s
      obtain ⟨H1, v4, h2, h6, h7, h8, h10, R5, Rp_l, S⟩ := hI
      refine WP.seq ?_
      refine WP.region ?_
      refine WL.valw (R.lss h10 h8) ?_
      refine WL.nil ?_
      refine WP.seq ?_
      rcases condE hy17 with ⟨hc21, hy17⟩ | ⟨hc21, hy17⟩
      · refine WP.condT rfl hc21 ?_
        refine WP.skip ?_
        refine WP.seq ?_
        refine WP.block ?_
        refine WP.seq ?_
        refine WP.region ?_
        obtain ⟨x22, hx22, hy17⟩ := bindE hy17
        refine W.idx (α := GField) Rp_l h7 h10 el27 hx22 ?_
        rintro a23 _ hA24 rfl
        refine WL.valw (R.loadHN (vs := [(str x22.fName), (str x22.fValue)]) S rfl hA24 lay26 rfl rfl) ?_
        refine W.alloc [(str []), (str [])] S zer26 ?_
        intro b25 w26 S
        refine W.store (i := 0) [(str x22.fName), (str x22.fValue)] S rfl rfl rfl lay26 rfl rfl (Nat.le_of_ble_eq_true rfl) rfl ?_
        intro w27 S
        refine WL.nil ?_
        refine WP.seq ?_
        refine WP.region ?_
        refine WL.valw (R.mv (v := (.func (.func kp_keep) #[] cp_keep.toArray)) h2) ?_
        refine WL.valw (R.loadBN (i := 0) (vs := [(str x22.fName), (str x22.fValue)]) S rfl rfl lay26 rfl rfl) ?_
        obtain ⟨r28, hr28, hy17⟩ := bindE hy17
        refine W.callv S rfl rfl (Fp_keep (S.post.le) S.holds x22 _ hr28) ?_
        rintro v29 w30 H31 hle32 S rfl
        have R5 := Sl.mono R5 hle32
        have Rp_l := Sl.mono Rp_l hle32
        have hA24 := At.mono hA24 hle32 (by simp)
        refine WL.nil ?_
        rcases condE hy17 with ⟨hc33, hy17⟩ | ⟨hc33, hy17⟩
        · refine WP.condT rfl hc33 ?_
          refine WP.region ?_
          refine WL.valw (R.mv (v := v4) h6) ?_
          refine WL.valw (R.loadBN (i := 0) (vs := [(str x22.fName), (str x22.fValue)]) S rfl rfl lay26 rfl rfl) ?_
          refine W.bslice (α := GField) [(agg [(str x22.fName), (str x22.fValue)])] ([x22] : List GField) S el27 rfl rfl rfl (by decide) (encS ⟨rfl, rfl⟩ enc0) ?_
          intro u34 w35 H36 hle37 R38 S
          have R5 := Sl.mono R5 hle37
          have Rp_l := Sl.mono Rp_l hle37
          have hA24 := At.mono hA24 hle37 (by simp)
          obtain ⟨l39, hl39, hy17⟩ := bindE hy17
          refine W.app (α := GField) (i := 2) S el27 rfl rfl rfl R5 R38 hl39 ?_
          intro v40 w41 H42 hle43 R44 S
          have R5 := Sl.mono R5 hle43
          have Rp_l := Sl.mono Rp_l hle43
          have hA24 := At.mono hA24 hle43 (by simp)
          have R38 := Sl.mono R38 hle43
          refine WL.valw (R.as (v := v40) rfl) ?_
          refine WL.nil ?_
          refine WP.region ?_
          refine WL.valw (R.add h10 rfl) ?_
          refine WL.valw (R.mv (v := (int (wr (y_9 + 1)))) rfl) ?_
          refine WL.nil ?_
          obtain rfl := Option.some.inj hy17
          exact ⟨rfl, ⟨H42, v40, h2, rfl, h7, h8, rfl, R44, Rp_l, (S.drop _ (.cons _ (.cons _ (.cons_cons _ .slnil))))⟩⟩
        · refine WP.condF rfl hc33 ?_
          refine WP.skip ?_
          refine WP.region ?_
          refine WL.valw (R.add h10 rfl) ?_
          refine WL.valw (R.mv (v := (int (wr (y_9 + 1)))) rfl) ?_
          refine WL.nil ?_
          obtain rfl := Option.some.inj hy17
          exact ⟨rfl, ⟨H31, v4, h2, h6, h7, h8, rfl, R5, Rp_l, (S.drop _ (.cons _ (.cons_cons _ .slnil)))⟩⟩
      · refine WP.condF rfl hc21 ?_
        refine WP.exit ?_
        obtain rfl := Option.some.inj hy17
        obtain rfl := hy18
        exact ⟨H1, v4, h6, R5, S⟩
  · rintro f w ⟨H11, v13, h15, R14, S⟩
    refine WP.seq ?_
    refine WP.region ?_
    refine WL.valw (R.mv (v := v13) h15) ?_
    refine WL.valw (R.as (v := v13) rfl) ?_
    refine WL.nil ?_
    obtain rfl := Option.some.inj h
    refine WP.ret (Out.one rfl S rfl ?_)
    exact R14
set_option maxRecDepth 10000 in
set_option maxHeartbeats 4000000 in
theorem fieldline_Get_ok {w0 : World} {H0 : Hp} (hw : Holds w0 H0) (p_l : (List GField)) (p_name : Str) {vp_l : Value} (Rp_l : Sl (α := GField) H0 vp_l p_l) {r : (List Str)} (h : fieldline_Get p_l p_name = some r) :
    Con Tryd.prog 61 [vp_l, (str p_name)] w0 H0 (fun H' v => Sl (α := Str) H' v r) := by
  refine Con.mk (N := 24) Tryd.func61 rfl rfl (by kernel_rfl) rfl ?_
  have S := St.start hw
  refine WP.seq ?_
  refine WP.region ?_
  refine WL.valw (R.as (v := (.slice none 0 0)) rfl) ?_
  refine WL.nil ?_
  refine WP.seq ?_
  refine WP.region ?_
  refine WL.valw (R.as (v := (.slice none 0 0)) rfl) ?_
  refine WL.nil ?_
  refine WP.seq ?_
  refine WP.seq ?_
  refine WP.region ?_
  refine WL.valw (R.mv (v := vp_l) rfl) ?_
  refine WL.valw (R.mv (v := (str p_name)) rfl) ?_
  obtain ⟨r1, hr1, h⟩ := bindE h
  refine W.call S rfl (fieldline_named_ok S.holds p_name hr1) ?_
  rintro v2 w3 H4 hle5 S ⟨kr1, cr1, rfl, Fr1⟩
  have Rp_l := Sl.mono Rp_l hle5
  obtain ⟨r6, hr6, h⟩ := bindE h
  refine W.call S rfl (fieldline_filter_ok S.holds p_l r1 Rp_l (fun hle => Fr1 (Hp.le.trans (Hp.le.refl _) hle)) hr6) ?_
  rintro v7 w8 H9 hle10 S R11
  have Rp_l := Sl.mono Rp_l hle10
  refine WL.valw (R.lenL (α := GField) (xs := r6) (H := H9) R11 rfl Tryd.underlying27) ?_
  refine WL.valw (R.mv (v := (int 0)) rfl) ?_
  refine WL.nil ?_
  have S := S.addNil 9 1
  obtain ⟨out_22, hr30, h⟩ := bindE h
  refine WP.cut (fun f w => ∃ (H21 : Hp) (v23 : Value), f 5 = v23 ∧ Sl (α := Str) H21 v23 out_22 ∧ St w0 H0 w H21 [.row v23 9 1 out_22.length]) ?_ ?_
  · refine WP.block ?_
    refine WP.loopM (fieldline_Get_L0 r6) (fun s f w => match s with | (out_13, y_19) => ∃ (H12 : Hp) (v14 : Value), f 5 = v14 ∧ f 11 = v7 ∧ f 12 = (int (r6.length : Int)) ∧ f 13 = (int y_19) ∧ Sl (α := Str) H12 v14 out_13 ∧ Sl (α := GField) H12 v7 r6 ∧ St w0 H0 w H12 [.row v14 9 1 out_13.length]) (([] : List Str), 0) out_22 hr30 ?_ ?_
    · exact ⟨H9, .slice none 0 0, rfl, rfl, rfl, rfl, Sl.nil, R11, S⟩
    · intro s f w hI y26 hy27 hy28
      obtain ⟨out_13, y_19⟩ := s
      obtain ⟨H12, v14, h16, h17, h18, h20, R15, R11, S⟩ := hI
      refine WP.seq ?_
      refine WP.region ?_
      refine WL.valw (R.lss h20 h18) ?_
      refine WL.nil ?_
      refine WP.seq ?_
      rcases condE hy27 with ⟨hc31, hy27⟩ | ⟨hc31, hy27⟩
      · refine WP.condT rfl hc31 ?_
        refine WP.skip ?_
        refine WP.seq ?_
        refine WP.block ?_
        refine WP.seq ?_
        refine WP.region ?_
        obtain ⟨x32, hx32, hy27⟩ := bindE hy27
        refine W.idx (α := GField) R11 h17 h20 el27 hx32 ?_
        rintro a33 _ hA34 rfl
        refine WL.valw (R.loadHN (vs := [(str x32.fName), (str x32.fValue)]) S rfl hA34 lay26 rfl rfl) ?_
        refine W.alloc [(str []), (str [])] S zer26 ?_
        intro b35 w36 S
        refine W.store (i := 0) [(str x32.fName), (str x32.fValue)] S rfl rfl rfl lay26 rfl rfl (Nat.le_of_ble_eq_true rfl) rfl ?_
        intro w37 S
        refine WL.nil ?_
        refine WP.region ?_
        refine WL.valw (R.mv (v := v14) h16) ?_
        refine WL.valw (R.fieldB rfl fld26_1) ?_
        refine WL.valw (R.loadB (i := 0) (v := (str x32.fValue)) S rfl rfl lay9 rfl) ?_
        refine W.bslice (α := Str) [(str x32.fValue)] ([x32.fValue] : List Str) S el23 rfl rfl rfl (by decide) (encS ⟨rfl, rfl⟩ enc0) ?_
        intro u38 w39 H40 hle41 R42 S
        have R15 := Sl.mono R15 hle41
        have R11 := Sl.mono R11 hle41
        have hA34 := At.mono hA34 hle41 (by simp)
        obtain ⟨l43, hl43, hy27⟩ := bindE hy27
        refine W.app (α := Str) (i := 2) S el23 rfl rfl rfl R15 R42 hl43 ?_
        intro v44 w45 H46 hle47 R48 S
        have R15 := Sl.mono R15 hle47
        have R11 := Sl.mono R11 hle47
        have hA34 := At.mono hA34 hle47 (by simp)
        have R42 := Sl.mono R42 hle47
        refine WL.valw (R.as (v := v44) rfl) ?_
        refine WL.nil ?_
        refine WP.region ?_
        refine WL.valw (R.add h20 rfl) ?_
        refine WL.valw (R.mv (v := (int (wr (y_19 + 1)))) rfl) ?_
        refine WL.nil ?_
        obtain rfl := Option.some.inj hy27
        exact ⟨rfl, ⟨H46, v44, rfl, h17, h18, rfl, R48, R11, (S.drop _ (.cons _ (.cons _ (.cons_cons _ .slnil))))⟩⟩
      · refine WP.condF rfl hc31 ?_
        refine WP.exit ?_
        obtain rfl := Option.some.inj hy27
        obtain rfl := hy28
        exact ⟨H12, v14, h16, R15, S⟩
  · rintro f w ⟨H21, v23, h25, R24, S⟩
    refine WP.seq ?_
    refine WP.region ?_
    refine WL.valw (R.mv (v := v23) h25) ?_
    refine WL.valw (R.as (v := v23) rfl) ?_
    refine WL.nil ?_
    obtain rfl := Option.some.inj h
    refine WP.ret (Out.one rfl S rfl ?_)
    exact R24
set_option maxRecDepth 10000 in
set_option maxHeartbeats 4000000 in
theorem list_step_ok {w0 : World} {H0 : Hp} (hw : Holds w0 H0) (p_state : Int) (p_c : UInt8) {r : Int} (h : list_step p_state p_c = some r) :
    Con Tryd.prog 73 [(int p_state), (byt p_c)] w0 H0 (fun H' v => v = (int r)) := by
  refine Con.mk (N := 21) Tryd.func73 rfl rfl (by kernel_rfl) rfl ?_
  have S := St.start hw
  refine WP.seq ?_
  refine WP.region ?_
  refine WL.valw (R.as (v := (int 0)) rfl) ?_
  refine WL.nil ?_
  refine WP.seq ?_
  refine WP.block ?_
  refine WP.seq ?_
  refine WP.region ?_
  refine WL.valw (R.mv (v := (int p_state)) rfl) ?_
  refine WL.valw (R.eql rfl rfl) ?_
  refine WL.valw (R.as (v := (boo (p_state == 2))) rfl) ?_
  refine WL.nil ?_
  rcases condE h with ⟨hc1, h⟩ | ⟨hc1, h⟩
  · refine WP.condT rfl hc1 ?_
    refine WP.seq ?_
    refine WP.region ?_
    refine WL.valw (R.as (v := (int 1)) rfl) ?_
    refine WL.nil ?_
    obtain rfl := Option.some.inj h
    refine WP.ret (Out.one rfl S rfl ?_)
    exact rfl
  · refine WP.condF rfl hc1 ?_
    refine WP.seq ?_
    refine WP.region ?_
    refine WL.valw (R.mv (v := (int p_state)) rfl) ?_
    refine WL.valw (R.eql rfl rfl) ?_
    refine WL.valw (R.mv (v := (boo (p_state == 1))) rfl) ?_
    refine WL.grp 3 [12, 13] 14 (boo ((p_state == 1) && (p_c == 92))) ?_ ?_
    · rcases boolE (p_state == 1) with hb2 | hb2
      · refine WL.gyes rfl rfl hb2 ?_
        refine WL.valw (R.mv (v := (byt p_c)) rfl) ?_
        refine WL.gyes rfl rfl hb2 ?_
        refine WL.valw (R.eql8 (a := p_c) (b := 92) rfl rfl) ?_
        refine WL.valw (R.pickT rfl hb2 rfl) ?_
        exact WL.nil ⟨(andT hb2), (by repeat (first | refine agree_upd rfl ?_ | refine agree_upds' rfl ?_ | exact agree_refl)), rfl⟩
      · refine WL.gno rfl rfl hb2 ?_
        refine WL.gno rfl rfl hb2 ?_
        refine WL.valw (R.pickF rfl hb2 rfl) ?_
        exact WL.nil ⟨(andF hb2), (by repeat (first | refine agree_upd rfl ?_ | refine agree_upds' rfl ?_ | exact agree_refl)), rfl⟩
    · intro us
      refine WL.valw (R.as (v := (boo ((p_state == 1) && (p_c == 92)))) rfl) ?_
      refine WL.nil ?_
      rcases condE h with ⟨hc4, h⟩ | ⟨hc4, h⟩
      · refine WP.condT rfl hc4 ?_
        refine WP.seq ?_
        refine WP.region ?_
        refine WL.valw (R.as (v := (int 2)) rfl) ?_
        refine WL.nil ?_
        obtain rfl := Option.some.inj h
        refine WP.ret (Out.one rfl S rfl ?_)
        exact rfl
      · refine WP.condF rfl hc4 ?_
        refine WP.seq ?_
        refine WP.region ?_
        refine WL.valw (R.mv (v := (byt p_c)) rfl) ?_
        refine WL.valw (R.eql8 (a := p_c) (b := 34) rfl rfl) ?_
        refine WL.valw (R.as (v := (boo (p_c == 34))) rfl) ?_
        refine WL.nil ?_
        rcases condE h with ⟨hc5, h⟩ | ⟨hc5, h⟩
        · refine WP.condT rfl hc5 ?_
          refine WP.seq ?_
          refine WP.region ?_
          refine WL.valw (R.mv (v := (int p_state)) rfl) ?_
          refine WL.valw (R.sub rfl rfl) ?_
          refine WL.valw (R.as (v := (int (wr (1 - p_state)))) rfl) ?_
          refine WL.nil ?_
          obtain rfl := Option.some.inj h
          refine WP.ret (Out.one rfl S rfl ?_)
          exact rfl
        · refine WP.condF rfl hc5 ?_
          refine WP.skip ?_
          refine WP.seq ?_
          refine WP.region ?_
          refine WL.valw (R.mv (v := (int p_state)) rfl) ?_
          refine WL.valw (R.as (v := (int p_state)) rfl) ?_
          refine WL.nil ?_
          obtain rfl := Option.some.inj h
          refine WP.ret (Out.one rfl S rfl ?_)
          exact rfl
end Go.Proofs
