/- A part of the proof of laws of the seat: written by program over the translation. -/
import Derived.Test.YtogfdiigokidaaaGreatDoorPure2
import Derived.Test.YtogfdiigokidaaaGreatDoorProg
import Derived.Test.YtogfdiigokidaaaGreatDoorShelf
namespace Go.Proofs
open Go.Eng Go.Eng.Pure
set_option linter.unusedVariables false
theorem lay9 : lay Tryz.prog 9 = some (false, 1) := by kernel_rfl
theorem el23 : Elem Tryz.prog 23 9 1 := elem_of (by kernel_rfl)
theorem lay23 : lay Tryz.prog 23 = some (false, 1) := by kernel_rfl
theorem el22 : Elem Tryz.prog 22 23 1 := elem_of (by kernel_rfl)
theorem fld53_0 : fld Tryz.prog 53 0 = some 0 := by kernel_rfl
theorem fld53_1 : fld Tryz.prog 53 1 = some 1 := by kernel_rfl
theorem el24 : Elem Tryz.prog 24 53 2 := elem_of (by kernel_rfl)
theorem fld26_0 : fld Tryz.prog 26 0 = some 0 := by kernel_rfl
theorem lay22 : lay Tryz.prog 22 = some (false, 1) := by kernel_rfl
theorem fld26_1 : fld Tryz.prog 26 1 = some 1 := by kernel_rfl
theorem fld26_2 : fld Tryz.prog 26 2 = some 2 := by kernel_rfl
theorem fld26_3 : fld Tryz.prog 26 3 = some 3 := by kernel_rfl
theorem fld26_5 : fld Tryz.prog 26 5 = some 5 := by kernel_rfl
theorem fld26_4 : fld Tryz.prog 26 4 = some 4 := by kernel_rfl
theorem lay24 : lay Tryz.prog 24 = some (false, 1) := by kernel_rfl
theorem lay5 : lay Tryz.prog 5 = some (false, 1) := by kernel_rfl
theorem el130 : Elem Tryz.prog 130 5 1 := elem_of (by kernel_rfl)
theorem lay53 : lay Tryz.prog 53 = some (true, 2) := by kernel_rfl
theorem zer53 : zer Tryz.prog 53 = some [(str []), (str [])] := by kernel_rfl
theorem zer242 : zer Tryz.prog 242 = some [(str []), (str []), (str []), (str []), (str []), (str []), (str []), (str []), (str []), (str []), (str []), (str [])] := by kernel_rfl
theorem lay3 : lay Tryz.prog 3 = some (false, 1) := by kernel_rfl
theorem zer257 : zer Tryz.prog 257 = some [(int 0), (int 0), (int 0), (int 0), (int 0), (int 0), (int 0), (int 0), (int 0), (int 0), (int 0), (int 0)] := by kernel_rfl
theorem zer245 : zer Tryz.prog 245 = some [(str []), (str []), (str []), (str []), (str []), (str []), (str [])] := by kernel_rfl
theorem zer220 : zer Tryz.prog 220 = some [(str []), (str []), (str []), (str []), (str [])] := by kernel_rfl
theorem zer219 : zer Tryz.prog 219 = some [(int 0), (int 0), (int 0), (int 0), (int 0)] := by kernel_rfl
theorem fld26_6 : fld Tryz.prog 26 6 = some 6 := by kernel_rfl
theorem lay2 : lay Tryz.prog 2 = some (false, 1) := by kernel_rfl
theorem fld26_7 : fld Tryz.prog 26 7 = some 7 := by kernel_rfl
theorem lay94 : lay Tryz.prog 94 = some (false, 1) := by kernel_rfl
theorem zer94 : zer Tryz.prog 94 = some [.nilFunc] := by kernel_rfl
theorem bp53 : bplaces Tryz.prog 53 = some [(0, 1), (1, 1)] := by kernel_rfl
theorem bp30 : bplaces Tryz.prog 30 = some [(0, 1), (1, 1), (2, 1), (3, 1), (4, 1)] := by kernel_rfl
theorem zer30 : zer Tryz.prog 30 = some [(int 0), (int 0), (str []), (.slice none 0 0), (str [])] := by kernel_rfl
theorem lay30 : lay Tryz.prog 30 = some (true, 5) := by kernel_rfl
theorem lay26 : lay Tryz.prog 26 = some (true, 8) := by kernel_rfl
theorem fld30_0 : fld Tryz.prog 30 0 = some 0 := by kernel_rfl
theorem fld30_1 : fld Tryz.prog 30 1 = some 1 := by kernel_rfl
theorem fld30_2 : fld Tryz.prog 30 2 = some 2 := by kernel_rfl
theorem fld30_3 : fld Tryz.prog 30 3 = some 3 := by kernel_rfl
theorem fld30_4 : fld Tryz.prog 30 4 = some 4 := by kernel_rfl
theorem zer170 : zer Tryz.prog 170 = some (List.replicate 256 (boo false)) := by kernel_rfl
theorem lay170 : lay Tryz.prog 170 = some (true, 256) := by kernel_rfl
theorem fld133_0 : fld Tryz.prog 133 0 = some 0 := by kernel_rfl
theorem lay131 : lay Tryz.prog 131 = some (false, 1) := by kernel_rfl
theorem lay133 : lay Tryz.prog 133 = some (true, 2) := by kernel_rfl
theorem inf133 : ∃ i, Tryz.prog.info? 133 = some i := Option.isSome_iff_exists.1 (by kernel_rfl)
theorem ceo133 : Tryz.prog.cellsOf 133 = 2 := by kernel_rfl
theorem fld133_1 : fld Tryz.prog 133 1 = some 1 := by kernel_rfl
theorem lay130 : lay Tryz.prog 130 = some (false, 1) := by kernel_rfl
theorem ceo5 : Tryz.prog.cellsOf 5 = 1 := by kernel_rfl
theorem zer133 : zer Tryz.prog 133 = some [(.pointer none), (.slice none 0 0)] := by kernel_rfl
theorem bp26 : bplaces Tryz.prog 26 = some [(0, 1), (1, 1), (2, 1), (3, 1), (4, 1), (5, 1), (6, 1), (7, 1)] := by kernel_rfl
theorem zer26 : zer Tryz.prog 26 = some [(.slice none 0 0), (.slice none 0 0), (.slice none 0 0), (str []), (.slice none 0 0), (str []), (int 0), (int 0)] := by kernel_rfl
/-- What lies laid: the tables of the library that are read. -/
structure Tryz.Gl (w : World) : Prop where
  pow10 : Lib.TabIs Tryz.prog w "internal/strconv.uint64pow10" .u64 Lib.pow10Tab
theorem Tryz.Gl.post {w0 w : World} {H0 H : Hp} (h : Tryz.Gl w0) (p : Post w0 H0 w H) : Tryz.Gl w :=
  ⟨tab_post (by kernel_rfl : Tryz.prog.globalNamed "internal/strconv.uint64pow10" = some 5) h.pow10 p⟩
theorem strconv_Itoa_ok {w0 : World} {H0 : Hp} (hw : Holds w0 H0) (hG : Tryz.Gl w0) (p_i : Int) {r : Str} (h : strconv_Itoa p_i = some r) :
    Con Tryz.prog 109 [(int p_i)] w0 H0 (fun H' v => v = (str r)) :=
  itoaCon Tryz.func109 rfl (by kernel_rfl) hw hG.pow10 h Tryz.strconv_Itoa
theorem stringslite_Index_ok {w0 : World} {H0 : Hp} (hw : Holds w0 H0) (p_s : Str) (p_sub : Str) {r : Int} (h : stringslite_Index p_s p_sub = some r) :
    Con Tryz.prog 172 [(str p_s), (str p_sub)] w0 H0 (fun H' v => v = (int r)) :=
  ixOneCon Tryz.func172 rfl (by kernel_rfl) hw h Tryz.stringslite_Index_one
theorem strings_makeASCIISet_ok {w0 : World} {H0 : Hp} (hw : Holds w0 H0) (p_s : Str) {r : Unit} (h : strings_makeASCIISet p_s = some r) :
    Con Tryz.prog 174 [(str p_s)] w0 H0 (fun H' v => v = (.tuple ⟨[(.agg (Lib.setCells p_s)), (boo true)]⟩)) :=
  mkSetCon Tryz.func174 rfl (by kernel_rfl) hw h (Tryz.strings_makeASCIISet (fun w => (Tryz.zeroValue170 w).trans (by kernel_rfl)))
theorem strings_asciiSet_contains_ok {w0 : World} {H0 : Hp} (hw : Holds w0 H0) (p_as : Str) (p_c : UInt8) {b : Nat} (hA : At H0 ⟨b, 0, none⟩ (setc p_as)) {r : Bool} (h : strings_asciiSet_contains p_as p_c = some r) :
    Con Tryz.prog 207 [(ptr b 0), (byt p_c)] w0 H0 (fun H' v => v = (boo r)) :=
  inSetCon Tryz.func207 rfl (by kernel_rfl) hw hA h Tryz.asciiSet_contains
set_option maxRecDepth 10000 in
set_option maxHeartbeats 4000000 in
theorem keep_Strings_ok {w0 : World} {H0 : Hp} (hw : Holds w0 H0) (hG : Tryz.Gl w0) (p_l : (List Str)) {vp_l : Value} (Rp_l : Sl (α := Str) H0 vp_l p_l) {r : Bool} (h : keep_Strings p_l = some r) :
    Con Tryz.prog 29 [vp_l] w0 H0 (fun H' v => v = (boo r)) := by
  refine Con.mk (N := 23) Tryz.func29 rfl rfl (by kernel_rfl) rfl ?_
  have S := St.start hw
  refine WP.seq ?_
  refine WP.region ?_
  refine WL.valw (R.as (v := (boo false)) rfl) ?_
  refine WL.nil ?_
  refine WP.seq ?_
  refine WP.seq ?_
  refine WP.region ?_
  refine WL.valw (R.as (v := (int 0)) rfl) ?_
  refine WL.nil ?_
  obtain ⟨r10, hr11, h⟩ := bindE h
  refine WP.cut (fun f w => match r10 with | .inl _ => ∃ (H5 : Hp), f 0 = vp_l ∧ Sl (α := Str) H5 vp_l p_l ∧ St w0 H0 w H5 [] | .inr _ => False) ?_ ?_
  · refine WP.block ?_
    refine WP.loopM (keep_Strings_L0 p_l) (fun s f w => match s with | i_3 => ∃ (H1 : Hp), f 0 = vp_l ∧ f 3 = (int i_3) ∧ Sl (α := Str) H1 vp_l p_l ∧ St w0 H0 w H1 []) 0 r10 hr11 ?_ ?_
    · exact ⟨H0, rfl, rfl, Rp_l, S⟩
    · intro i_3 f w hI y7 hy8 hy9
      obtain ⟨H1, h2, h4, Rp_l, S⟩ := hI
      refine WP.seq ?_
      refine WP.seq ?_
      refine WP.region ?_
      refine WL.valw (R.mv (v := (int i_3)) h4) ?_
      refine WL.valw (R.mv (v := vp_l) h2) ?_
      refine WL.valw (R.lenL (α := Str) (xs := p_l) (H := H1) Rp_l rfl Tryz.underlying23) ?_
      refine WL.valw (R.lss rfl rfl) ?_
      refine WL.valw (R.mv (v := (boo (decide (i_3 < (p_l.length : Int))))) rfl) ?_
      refine WL.grp 3 [9, 10] 11 (boo ((decide (i_3 < (p_l.length : Int))) && (decide (i_3 < 21)))) ?_ ?_
      · rcases boolE (decide (i_3 < (p_l.length : Int))) with hb12 | hb12
        · refine WL.gyes rfl rfl hb12 ?_
          refine WL.valw (R.mv (v := (int i_3)) h4) ?_
          refine WL.gyes rfl rfl hb12 ?_
          refine WL.valw (R.lss rfl rfl) ?_
          refine WL.valw (R.pickT rfl hb12 rfl) ?_
          exact WL.nil ⟨(andT hb12), (by repeat (first | refine agree_upd rfl ?_ | refine agree_upds' rfl ?_ | exact agree_refl)), rfl⟩
        · refine WL.gno rfl rfl hb12 ?_
          refine WL.gno rfl rfl hb12 ?_
          refine WL.valw (R.pickF rfl hb12 rfl) ?_
          exact WL.nil ⟨(andF hb12), (by repeat (first | refine agree_upd rfl ?_ | refine agree_upds' rfl ?_ | exact agree_refl)), rfl⟩
      · intro us
        refine WL.nil ?_
        rcases condE hy8 with ⟨hc14, hy8⟩ | ⟨hc14, hy8⟩
        · refine WP.condT rfl hc14 ?_
          refine WP.skip ?_
          refine WP.seq ?_
          refine WP.block ?_
          refine WP.seq ?_
          refine WP.region ?_
          refine WL.valw (R.mv (v := vp_l) h2) ?_
          refine WL.valw (R.mv (v := (int i_3)) h4) ?_
          obtain ⟨x15, hx15, hy8⟩ := bindE hy8
          refine W.idx (α := Str) Rp_l rfl rfl el23 hx15 ?_
          rintro a16 _ hA17 rfl
          refine WL.valw (R.loadH (v := (str x15)) S rfl hA17 lay9 rfl) ?_
          refine WL.valw (R.lenS (a := x15) rfl Tryz.underlying9) ?_
          refine WL.valw (R.gtr rfl rfl) ?_
          refine WL.nil ?_
          rcases condE hy8 with ⟨hc18, hy8⟩ | ⟨hc18, hy8⟩
          · refine WP.condT rfl hc18 ?_
            refine WP.seq ?_
            refine WP.region ?_
            refine WL.valw (R.as (v := (boo false)) rfl) ?_
            refine WL.nil ?_
            obtain rfl := Option.some.inj hy8
            obtain rfl := hy9
            obtain rfl := Option.some.inj h
            refine WP.ret (Out.one rfl S rfl ?_)
            exact rfl
          · refine WP.condF rfl hc18 ?_
            refine WP.skip ?_
            refine WP.region ?_
            refine WL.valw (R.mv (v := (int i_3)) h4) ?_
            refine WL.valw (R.add rfl rfl) ?_
            refine WL.valw (R.as (v := (int (wr (i_3 + 1)))) rfl) ?_
            refine WL.nil ?_
            obtain rfl := Option.some.inj hy8
            exact ⟨rfl, ⟨H1, h2, rfl, Rp_l, S⟩⟩
        · refine WP.condF rfl hc14 ?_
          refine WP.exit ?_
          obtain rfl := Option.some.inj hy8
          obtain rfl := hy9
          exact ⟨H1, h2, Rp_l, S⟩
  · intro f w hM
    rcases r10 with _ | e
    · obtain ⟨H5, h6, Rp_l, S⟩ := hM
      refine WP.seq ?_
      refine WP.region ?_
      refine WL.valw (R.mv (v := vp_l) h6) ?_
      refine WL.valw (R.lenL (α := Str) (xs := p_l) (H := H5) Rp_l rfl Tryz.underlying23) ?_
      refine WL.valw (R.leq rfl rfl) ?_
      refine WL.valw (R.as (v := (boo (decide ((p_l.length : Int) ≤ 20)))) rfl) ?_
      refine WL.nil ?_
      obtain rfl := Option.some.inj h
      refine WP.ret (Out.one rfl S rfl ?_)
      exact rfl
    · exact hM.elim
set_option maxRecDepth 10000 in
set_option maxHeartbeats 4000000 in
theorem keep_Keys_ok {w0 : World} {H0 : Hp} (hw : Holds w0 H0) (hG : Tryz.Gl w0) (p_l : (List (List Str))) {vp_l : Value} (Rp_l : Sl (α := (List Str)) H0 vp_l p_l) {r : Bool} (h : keep_Keys p_l = some r) :
    Con Tryz.prog 28 [vp_l] w0 H0 (fun H' v => v = (boo r)) := by
  refine Con.mk (N := 23) Tryz.func28 rfl rfl (by kernel_rfl) rfl ?_
  have S := St.start hw
  refine WP.seq ?_
  refine WP.region ?_
  refine WL.valw (R.as (v := (boo false)) rfl) ?_
  refine WL.nil ?_
  refine WP.seq ?_
  refine WP.seq ?_
  refine WP.region ?_
  refine WL.valw (R.as (v := (int 0)) rfl) ?_
  refine WL.nil ?_
  obtain ⟨r10, hr11, h⟩ := bindE h
  refine WP.cut (fun f w => match r10 with | .inl _ => ∃ (H5 : Hp), f 0 = vp_l ∧ Sl (α := (List Str)) H5 vp_l p_l ∧ St w0 H0 w H5 [] | .inr _ => False) ?_ ?_
  · refine WP.block ?_
    refine WP.loopM (keep_Keys_L0 p_l) (fun s f w => match s with | i_3 => ∃ (H1 : Hp), f 0 = vp_l ∧ f 3 = (int i_3) ∧ Sl (α := (List Str)) H1 vp_l p_l ∧ St w0 H0 w H1 []) 0 r10 hr11 ?_ ?_
    · exact ⟨H0, rfl, rfl, Rp_l, S⟩
    · intro i_3 f w hI y7 hy8 hy9
      obtain ⟨H1, h2, h4, Rp_l, S⟩ := hI
      refine WP.seq ?_
      refine WP.seq ?_
      refine WP.region ?_
      refine WL.valw (R.mv (v := (int i_3)) h4) ?_
      refine WL.valw (R.mv (v := vp_l) h2) ?_
      refine WL.valw (R.lenL (α := (List Str)) (xs := p_l) (H := H1) Rp_l rfl Tryz.underlying22) ?_
      refine WL.valw (R.lss rfl rfl) ?_
      refine WL.valw (R.mv (v := (boo (decide (i_3 < (p_l.length : Int))))) rfl) ?_
      refine WL.grp 3 [9, 10] 11 (boo ((decide (i_3 < (p_l.length : Int))) && (decide (i_3 < 11)))) ?_ ?_
      · rcases boolE (decide (i_3 < (p_l.length : Int))) with hb12 | hb12
        · refine WL.gyes rfl rfl hb12 ?_
          refine WL.valw (R.mv (v := (int i_3)) h4) ?_
          refine WL.gyes rfl rfl hb12 ?_
          refine WL.valw (R.lss rfl rfl) ?_
          refine WL.valw (R.pickT rfl hb12 rfl) ?_
          exact WL.nil ⟨(andT hb12), (by repeat (first | refine agree_upd rfl ?_ | refine agree_upds' rfl ?_ | exact agree_refl)), rfl⟩
        · refine WL.gno rfl rfl hb12 ?_
          refine WL.gno rfl rfl hb12 ?_
          refine WL.valw (R.pickF rfl hb12 rfl) ?_
          exact WL.nil ⟨(andF hb12), (by repeat (first | refine agree_upd rfl ?_ | refine agree_upds' rfl ?_ | exact agree_refl)), rfl⟩
      · intro us
        refine WL.nil ?_
        rcases condE hy8 with ⟨hc14, hy8⟩ | ⟨hc14, hy8⟩
        · refine WP.condT rfl hc14 ?_
          refine WP.skip ?_
          refine WP.seq ?_
          refine WP.block ?_
          refine WP.seq ?_
          refine WP.region ?_
          refine WL.valw (R.mv (v := vp_l) h2) ?_
          refine WL.valw (R.mv (v := (int i_3)) h4) ?_
          obtain ⟨x15, hx15, hy8⟩ := bindE hy8
          refine W.idx (α := (List Str)) Rp_l rfl rfl el22 hx15 ?_
          rintro a16 _ hA17 ⟨v18, rfl, R19⟩
          refine WL.valw (R.loadH (v := v18) S rfl hA17 lay23 rfl) ?_
          obtain ⟨r20, hr20, hy8⟩ := bindE hy8
          refine W.call S rfl (keep_Strings_ok S.holds (hG.post S.post) x15 R19 hr20) ?_
          rintro v21 w22 H23 hle24 S rfl
          have Rp_l := Sl.mono Rp_l hle24
          have hA17 := At.mono hA17 hle24 (by simp)
          have R19 := Sl.mono R19 hle24
          refine WL.valw (R.not rfl) ?_
          refine WL.nil ?_
          rcases condE hy8 with ⟨hc25, hy8⟩ | ⟨hc25, hy8⟩
          · refine WP.condT rfl hc25 ?_
            refine WP.seq ?_
            refine WP.region ?_
            refine WL.valw (R.as (v := (boo false)) rfl) ?_
            refine WL.nil ?_
            obtain rfl := Option.some.inj hy8
            obtain rfl := hy9
            obtain rfl := Option.some.inj h
            refine WP.ret (Out.one rfl S rfl ?_)
            exact rfl
          · refine WP.condF rfl hc25 ?_
            refine WP.skip ?_
            refine WP.region ?_
            refine WL.valw (R.mv (v := (int i_3)) h4) ?_
            refine WL.valw (R.add rfl rfl) ?_
            refine WL.valw (R.as (v := (int (wr (i_3 + 1)))) rfl) ?_
            refine WL.nil ?_
            obtain rfl := Option.some.inj hy8
            exact ⟨rfl, ⟨H23, h2, rfl, Rp_l, S⟩⟩
        · refine WP.condF rfl hc14 ?_
          refine WP.exit ?_
          obtain rfl := Option.some.inj hy8
          obtain rfl := hy9
          exact ⟨H1, h2, Rp_l, S⟩
  · intro f w hM
    rcases r10 with _ | e
    · obtain ⟨H5, h6, Rp_l, S⟩ := hM
      refine WP.seq ?_
      refine WP.region ?_
      refine WL.valw (R.mv (v := vp_l) h6) ?_
      refine WL.valw (R.lenL (α := (List Str)) (xs := p_l) (H := H5) Rp_l rfl Tryz.underlying22) ?_
      refine WL.valw (R.leq rfl rfl) ?_
      refine WL.valw (R.as (v := (boo (decide ((p_l.length : Int) ≤ 10)))) rfl) ?_
      refine WL.nil ?_
      obtain rfl := Option.some.inj h
      refine WP.ret (Out.one rfl S rfl ?_)
      exact rfl
    · exact hM.elim
set_option maxRecDepth 10000 in
set_option maxHeartbeats 4000000 in
theorem keep_Fields_ok {w0 : World} {H0 : Hp} (hw : Holds w0 H0) (hG : Tryz.Gl w0) (p_l : (List GField)) {vp_l : Value} (Rp_l : Sl (α := GField) H0 vp_l p_l) {r : Bool} (h : keep_Fields p_l = some r) :
    Con Tryz.prog 30 [vp_l] w0 H0 (fun H' v => v = (boo r)) := by
  refine Con.mk (N := 33) Tryz.func30 rfl rfl (by kernel_rfl) rfl ?_
  have S := St.start hw
  refine WP.seq ?_
  refine WP.region ?_
  refine WL.valw (R.as (v := (boo false)) rfl) ?_
  refine WL.nil ?_
  refine WP.seq ?_
  refine WP.seq ?_
  refine WP.region ?_
  refine WL.valw (R.as (v := (int 0)) rfl) ?_
  refine WL.nil ?_
  obtain ⟨r10, hr11, h⟩ := bindE h
  refine WP.cut (fun f w => match r10 with | .inl _ => ∃ (H5 : Hp), f 0 = vp_l ∧ Sl (α := GField) H5 vp_l p_l ∧ St w0 H0 w H5 [] | .inr _ => False) ?_ ?_
  · refine WP.block ?_
    refine WP.loopM (keep_Fields_L0 p_l) (fun s f w => match s with | i_3 => ∃ (H1 : Hp), f 0 = vp_l ∧ f 3 = (int i_3) ∧ Sl (α := GField) H1 vp_l p_l ∧ St w0 H0 w H1 []) 0 r10 hr11 ?_ ?_
    · exact ⟨H0, rfl, rfl, Rp_l, S⟩
    · intro i_3 f w hI y7 hy8 hy9
      obtain ⟨H1, h2, h4, Rp_l, S⟩ := hI
      refine WP.seq ?_
      refine WP.seq ?_
      refine WP.region ?_
      refine WL.valw (R.mv (v := (int i_3)) h4) ?_
      refine WL.valw (R.mv (v := vp_l) h2) ?_
      refine WL.valw (R.lenL (α := GField) (xs := p_l) (H := H1) Rp_l rfl Tryz.underlying24) ?_
      refine WL.valw (R.lss rfl rfl) ?_
      refine WL.valw (R.mv (v := (boo (decide (i_3 < (p_l.length : Int))))) rfl) ?_
      refine WL.grp 3 [9, 10] 11 (boo ((decide (i_3 < (p_l.length : Int))) && (decide (i_3 < 71)))) ?_ ?_
      · rcases boolE (decide (i_3 < (p_l.length : Int))) with hb12 | hb12
        · refine WL.gyes rfl rfl hb12 ?_
          refine WL.valw (R.mv (v := (int i_3)) h4) ?_
          refine WL.gyes rfl rfl hb12 ?_
          refine WL.valw (R.lss rfl rfl) ?_
          refine WL.valw (R.pickT rfl hb12 rfl) ?_
          exact WL.nil ⟨(andT hb12), (by repeat (first | refine agree_upd rfl ?_ | refine agree_upds' rfl ?_ | exact agree_refl)), rfl⟩
        · refine WL.gno rfl rfl hb12 ?_
          refine WL.gno rfl rfl hb12 ?_
          refine WL.valw (R.pickF rfl hb12 rfl) ?_
          exact WL.nil ⟨(andF hb12), (by repeat (first | refine agree_upd rfl ?_ | refine agree_upds' rfl ?_ | exact agree_refl)), rfl⟩
      · intro us
        refine WL.nil ?_
        rcases condE hy8 with ⟨hc14, hy8⟩ | ⟨hc14, hy8⟩
        · refine WP.condT rfl hc14 ?_
          refine WP.skip ?_
          refine WP.seq ?_
          refine WP.block ?_
          refine WP.seq ?_
          refine WP.region ?_
          refine WL.valw (R.mv (v := vp_l) h2) ?_
          refine WL.valw (R.mv (v := (int i_3)) h4) ?_
          obtain ⟨x15, hx15, hy8⟩ := bindE hy8
          refine W.idx (α := GField) Rp_l rfl rfl el24 hx15 ?_
          rintro a16 _ hA17 rfl
          refine WL.valw (R.field rfl fld53_0) ?_
          have hA18 := At.add hA17 0 (by simp)
          refine WL.valw (R.loadH (v := (str x15.fName)) S rfl hA18 lay9 rfl) ?_
          refine WL.valw (R.lenS (a := x15.fName) rfl Tryz.underlying9) ?_
          refine WL.valw (R.gtr rfl rfl) ?_
          refine WL.valw (R.mv (v := (boo (decide (300 < (x15.fName.length : Int))))) rfl) ?_
          obtain ⟨b25, hg20, hy8⟩ := bindE hy8
          refine WL.grp 8 [22, 23, 24, 25, 26, 27, 28] 29 (boo b25) ?_ ?_
          · rcases boolE (decide (300 < (x15.fName.length : Int))) with hb19 | hb19
            · replace hg20 := condT hg20 hb19
              refine WL.gno rfl rfl hb19 ?_
              refine WL.gno rfl rfl hb19 ?_
              refine WL.gno rfl rfl hb19 ?_
              refine WL.gno rfl rfl hb19 ?_
              refine WL.gno rfl rfl hb19 ?_
              refine WL.gno rfl rfl hb19 ?_
              refine WL.gno rfl rfl hb19 ?_
              refine WL.valw (R.pickT rfl hb19 rfl) ?_
              exact WL.nil ⟨(congrArg boo (Option.some.inj hg20)), (by repeat (first | refine agree_upd rfl ?_ | refine agree_upds' rfl ?_ | exact agree_refl)), rfl⟩
            · replace hg20 := condF hg20 hb19
              refine WL.gyes rfl rfl hb19 ?_
              refine WL.valw (R.mv (v := vp_l) h2) ?_
              refine WL.gyes rfl rfl hb19 ?_
              refine WL.valw (R.mv (v := (int i_3)) h4) ?_
              refine WL.gyes rfl rfl hb19 ?_
              obtain ⟨x21, hx21, hg20⟩ := bindE hg20
              refine W.idx (α := GField) Rp_l rfl rfl el24 hx21 ?_
              rintro a22 _ hA23 rfl
              refine WL.gyes rfl rfl hb19 ?_
              refine WL.valw (R.field rfl fld53_1) ?_
              have hA24 := At.add hA23 1 (by simp)
              refine WL.gyes rfl rfl hb19 ?_
              refine WL.valw (R.loadH (v := (str x21.fValue)) S rfl hA24 lay9 rfl) ?_
              refine WL.gyes rfl rfl hb19 ?_
              refine WL.valw (R.lenS (a := x21.fValue) rfl Tryz.underlying9) ?_
              refine WL.gyes rfl rfl hb19 ?_
              refine WL.valw (R.gtr rfl rfl) ?_
              refine WL.valw (R.pickF rfl hb19 rfl) ?_
              exact WL.nil ⟨(congrArg boo (Option.some.inj hg20)), (by repeat (first | refine agree_upd rfl ?_ | refine agree_upds' rfl ?_ | exact agree_refl)), rfl⟩
          · intro us
            refine WL.nil ?_
            rcases condE hy8 with ⟨hc26, hy8⟩ | ⟨hc26, hy8⟩
            · refine WP.condT rfl hc26 ?_
              refine WP.seq ?_
              refine WP.region ?_
              refine WL.valw (R.as (v := (boo false)) rfl) ?_
              refine WL.nil ?_
              obtain rfl := Option.some.inj hy8
              obtain rfl := hy9
              obtain rfl := Option.some.inj h
              refine WP.ret (Out.one rfl S rfl ?_)
              exact rfl
            · refine WP.condF rfl hc26 ?_
              refine WP.skip ?_
              refine WP.region ?_
              refine WL.valw (R.mv (v := (int i_3)) h4) ?_
              refine WL.valw (R.add rfl rfl) ?_
              refine WL.valw (R.as (v := (int (wr (i_3 + 1)))) rfl) ?_
              refine WL.nil ?_
              obtain rfl := Option.some.inj hy8
              exact ⟨rfl, ⟨H1, h2, rfl, Rp_l, S⟩⟩
        · refine WP.condF rfl hc14 ?_
          refine WP.exit ?_
          obtain rfl := Option.some.inj hy8
          obtain rfl := hy9
          exact ⟨H1, h2, Rp_l, S⟩
  · intro f w hM
    rcases r10 with _ | e
    · obtain ⟨H5, h6, Rp_l, S⟩ := hM
      refine WP.seq ?_
      refine WP.region ?_
      refine WL.valw (R.mv (v := vp_l) h6) ?_
      refine WL.valw (R.lenL (α := GField) (xs := p_l) (H := H5) Rp_l rfl Tryz.underlying24) ?_
      refine WL.valw (R.leq rfl rfl) ?_
      refine WL.valw (R.as (v := (boo (decide ((p_l.length : Int) ≤ 70)))) rfl) ?_
      refine WL.nil ?_
      obtain rfl := Option.some.inj h
      refine WP.ret (Out.one rfl S rfl ?_)
      exact rfl
    · exact hM.elim
set_option maxRecDepth 10000 in
set_option maxHeartbeats 4000000 in
theorem keep_Entry_ok {w0 : World} {H0 : Hp} (hw : Holds w0 H0) (hG : Tryz.Gl w0) (p_e : GEntry) {vp_e0 : Value} {vp_e1 : Value} {vp_e2 : Value} {vp_e4 : Value} (Rp_e0 : Sl (α := (List Str)) H0 vp_e0 p_e.fKeys) (Rp_e1 : Sl (α := Str) H0 vp_e1 p_e.fVary) (Rp_e2 : Sl (α := Str) H0 vp_e2 p_e.fSnapshot) (Rp_e4 : Sl (α := GField) H0 vp_e4 p_e.fFields) {r : Bool} (h : keep_Entry p_e = some r) :
    Con Tryz.prog 8 [(agg [vp_e0, vp_e1, vp_e2, (str p_e.fReason), vp_e4, (str p_e.fBody), (int p_e.fRequested), (int p_e.fReceived)])] w0 H0 (fun H' v => v = (boo r)) := by
  refine Con.mk (N := 33) Tryz.func8 rfl rfl (by kernel_rfl) rfl ?_
  have S := St.start hw
  refine WP.seq ?_
  refine WP.region ?_
  refine W.box [vp_e0, vp_e1, vp_e2, (str p_e.fReason), vp_e4, (str p_e.fBody), (int p_e.fRequested), (int p_e.fReceived)] S rfl rfl ?_
  intro b1 w2 S
  refine WL.valw (R.as (v := (boo false)) rfl) ?_
  refine WL.nil ?_
  refine WP.seq ?_
  refine WP.region ?_
  refine WL.valw (R.fieldB rfl fld26_0) ?_
  refine WL.valw (R.loadB (i := 0) (v := vp_e0) S rfl rfl lay22 rfl) ?_
  obtain ⟨r3, hr3, h⟩ := bindE h
  refine W.call S rfl (keep_Keys_ok S.holds (hG.post S.post) p_e.fKeys Rp_e0 hr3) ?_
  rintro v4 w5 H6 hle7 S rfl
  have Rp_e0 := Sl.mono Rp_e0 hle7
  have Rp_e1 := Sl.mono Rp_e1 hle7
  have Rp_e2 := Sl.mono Rp_e2 hle7
  have Rp_e4 := Sl.mono Rp_e4 hle7
  refine WL.valw (R.mv (v := (boo r3)) rfl) ?_
  obtain ⟨b15, hg9, h⟩ := bindE h
  refine WL.grpw 4 [7, 8, 9] 10 (boo b15) (fun w => ∃ H' : Hp, H6.le H' ∧ St w0 H0 w H' [.box b1 26 [vp_e0, vp_e1, vp_e2, (str p_e.fReason), vp_e4, (str p_e.fBody), (int p_e.fRequested), (int p_e.fReceived)]]) ?_ ?_
  · rcases boolE r3 with hb8 | hb8
    · replace hg9 := condT hg9 hb8
      refine WL.gyes rfl rfl hb8 ?_
      refine WL.valw (R.fieldB rfl fld26_1) ?_
      refine WL.gyes rfl rfl hb8 ?_
      refine WL.valw (R.loadB (i := 0) (v := vp_e1) S rfl rfl lay23 rfl) ?_
      refine WL.gyes rfl rfl hb8 ?_
      obtain ⟨r10, hr10, hg9⟩ := bindE hg9
      refine W.call S rfl (keep_Strings_ok S.holds (hG.post S.post) p_e.fVary Rp_e1 hr10) ?_
      rintro v11 w12 H13 hle14 S rfl
      have Rp_e0 := Sl.mono Rp_e0 hle14
      have Rp_e1 := Sl.mono Rp_e1 hle14
      have Rp_e2 := Sl.mono Rp_e2 hle14
      have Rp_e4 := Sl.mono Rp_e4 hle14
      refine WL.valw (R.pickT rfl hb8 rfl) ?_
      exact WL.nil ⟨(congrArg boo (Option.some.inj hg9)), (by repeat (first | refine agree_upd rfl ?_ | refine agree_upds' rfl ?_ | exact agree_refl)), ⟨H13, hle14, S⟩⟩
    · replace hg9 := condF hg9 hb8
      refine WL.gno rfl rfl hb8 ?_
      refine WL.gno rfl rfl hb8 ?_
      refine WL.gno rfl rfl hb8 ?_
      refine WL.valw (R.pickF rfl hb8 rfl) ?_
      exact WL.nil ⟨(congrArg boo (Option.some.inj hg9)), (by repeat (first | refine agree_upd rfl ?_ | refine agree_upds' rfl ?_ | exact agree_refl)), ⟨H6, (Hp.le.refl _), S⟩⟩
  · intro us w17 ⟨H16, hle18, S⟩
    have Rp_e0 := Sl.mono Rp_e0 hle18
    have Rp_e1 := Sl.mono Rp_e1 hle18
    have Rp_e2 := Sl.mono Rp_e2 hle18
    have Rp_e4 := Sl.mono Rp_e4 hle18
    refine WL.valw (R.mv (v := (boo b15)) rfl) ?_
    obtain ⟨b26, hg20, h⟩ := bindE h
    refine WL.grpw 4 [12, 13, 14] 15 (boo b26) (fun w => ∃ H' : Hp, H16.le H' ∧ St w0 H0 w H' [.box b1 26 [vp_e0, vp_e1, vp_e2, (str p_e.fReason), vp_e4, (str p_e.fBody), (int p_e.fRequested), (int p_e.fReceived)]]) ?_ ?_
    · rcases boolE b15 with hb19 | hb19
      · replace hg20 := condT hg20 hb19
        refine WL.gyes rfl rfl hb19 ?_
        refine WL.valw (R.fieldB rfl fld26_2) ?_
        refine WL.gyes rfl rfl hb19 ?_
        refine WL.valw (R.loadB (i := 0) (v := vp_e2) S rfl rfl lay23 rfl) ?_
        refine WL.gyes rfl rfl hb19 ?_
        obtain ⟨r21, hr21, hg20⟩ := bindE hg20
        refine W.call S rfl (keep_Strings_ok S.holds (hG.post S.post) p_e.fSnapshot Rp_e2 hr21) ?_
        rintro v22 w23 H24 hle25 S rfl
        have Rp_e0 := Sl.mono Rp_e0 hle25
        have Rp_e1 := Sl.mono Rp_e1 hle25
        have Rp_e2 := Sl.mono Rp_e2 hle25
        have Rp_e4 := Sl.mono Rp_e4 hle25
        refine WL.valw (R.pickT rfl hb19 rfl) ?_
        exact WL.nil ⟨(congrArg boo (Option.some.inj hg20)), (by repeat (first | refine agree_upd rfl ?_ | refine agree_upds' rfl ?_ | exact agree_refl)), ⟨H24, hle25, S⟩⟩
      · replace hg20 := condF hg20 hb19
        refine WL.gno rfl rfl hb19 ?_
        refine WL.gno rfl rfl hb19 ?_
        refine WL.gno rfl rfl hb19 ?_
        refine WL.valw (R.pickF rfl hb19 rfl) ?_
        exact WL.nil ⟨(congrArg boo (Option.some.inj hg20)), (by repeat (first | refine agree_upd rfl ?_ | refine agree_upds' rfl ?_ | exact agree_refl)), ⟨H16, (Hp.le.refl _), S⟩⟩
    · intro us w28 ⟨H27, hle29, S⟩
      have Rp_e0 := Sl.mono Rp_e0 hle29
      have Rp_e1 := Sl.mono Rp_e1 hle29
      have Rp_e2 := Sl.mono Rp_e2 hle29
      have Rp_e4 := Sl.mono Rp_e4 hle29
      refine WL.valw (R.mv (v := (boo b26)) rfl) ?_
      refine WL.grp 5 [17, 18, 19, 20] 21 (boo (b26 && (decide ((p_e.fReason.length : Int) ≤ 100)))) ?_ ?_
      · rcases boolE b26 with hb30 | hb30
        · refine WL.gyes rfl rfl hb30 ?_
          refine WL.valw (R.fieldB rfl fld26_3) ?_
          refine WL.gyes rfl rfl hb30 ?_
          refine WL.valw (R.loadB (i := 0) (v := (str p_e.fReason)) S rfl rfl lay9 rfl) ?_
          refine WL.gyes rfl rfl hb30 ?_
          refine WL.valw (R.lenS (a := p_e.fReason) rfl Tryz.underlying9) ?_
          refine WL.gyes rfl rfl hb30 ?_
          refine WL.valw (R.leq rfl rfl) ?_
          refine WL.valw (R.pickT rfl hb30 rfl) ?_
          exact WL.nil ⟨(andT hb30), (by repeat (first | refine agree_upd rfl ?_ | refine agree_upds' rfl ?_ | exact agree_refl)), rfl⟩
        · refine WL.gno rfl rfl hb30 ?_
          refine WL.gno rfl rfl hb30 ?_
          refine WL.gno rfl rfl hb30 ?_
          refine WL.gno rfl rfl hb30 ?_
          refine WL.valw (R.pickF rfl hb30 rfl) ?_
          exact WL.nil ⟨(andF hb30), (by repeat (first | refine agree_upd rfl ?_ | refine agree_upds' rfl ?_ | exact agree_refl)), rfl⟩
      · intro us
        refine WL.valw (R.mv (v := (boo (b26 && (decide ((p_e.fReason.length : Int) ≤ 100))))) rfl) ?_
        refine WL.grp 5 [23, 24, 25, 26] 27 (boo ((b26 && (decide ((p_e.fReason.length : Int) ≤ 100))) && (decide ((p_e.fBody.length : Int) ≤ 2000)))) ?_ ?_
        · rcases boolE (b26 && (decide ((p_e.fReason.length : Int) ≤ 100))) with hb32 | hb32
          · refine WL.gyes rfl rfl hb32 ?_
            refine WL.valw (R.fieldB rfl fld26_5) ?_
            refine WL.gyes rfl rfl hb32 ?_
            refine WL.valw (R.loadB (i := 0) (v := (str p_e.fBody)) S rfl rfl lay9 rfl) ?_
            refine WL.gyes rfl rfl hb32 ?_
            refine WL.valw (R.lenS (a := p_e.fBody) rfl Tryz.underlying9) ?_
            refine WL.gyes rfl rfl hb32 ?_
            refine WL.valw (R.leq rfl rfl) ?_
            refine WL.valw (R.pickT rfl hb32 rfl) ?_
            exact WL.nil ⟨(andT hb32), (by repeat (first | refine agree_upd rfl ?_ | refine agree_upds' rfl ?_ | exact agree_refl)), rfl⟩
          · refine WL.gno rfl rfl hb32 ?_
            refine WL.gno rfl rfl hb32 ?_
            refine WL.gno rfl rfl hb32 ?_
            refine WL.gno rfl rfl hb32 ?_
            refine WL.valw (R.pickF rfl hb32 rfl) ?_
            exact WL.nil ⟨(andF hb32), (by repeat (first | refine agree_upd rfl ?_ | refine agree_upds' rfl ?_ | exact agree_refl)), rfl⟩
        · intro us
          refine WL.valw (R.mv (v := (boo ((b26 && (decide ((p_e.fReason.length : Int) ≤ 100))) && (decide ((p_e.fBody.length : Int) ≤ 2000))))) rfl) ?_
          obtain ⟨b41, hg35, h⟩ := bindE h
          refine WL.grpw 4 [29, 30, 31] 32 (boo b41) (fun w => ∃ H' : Hp, H27.le H' ∧ St w0 H0 w H' [.box b1 26 [vp_e0, vp_e1, vp_e2, (str p_e.fReason), vp_e4, (str p_e.fBody), (int p_e.fRequested), (int p_e.fReceived)]]) ?_ ?_
          · rcases boolE ((b26 && (decide ((p_e.fReason.length : Int) ≤ 100))) && (decide ((p_e.fBody.length : Int) ≤ 2000))) with hb34 | hb34
            · replace hg35 := condT hg35 hb34
              refine WL.gyes rfl rfl hb34 ?_
              refine WL.valw (R.fieldB rfl fld26_4) ?_
              refine WL.gyes rfl rfl hb34 ?_
              refine WL.valw (R.loadB (i := 0) (v := vp_e4) S rfl rfl lay24 rfl) ?_
              refine WL.gyes rfl rfl hb34 ?_
              obtain ⟨r36, hr36, hg35⟩ := bindE hg35
              refine W.call S rfl (keep_Fields_ok S.holds (hG.post S.post) p_e.fFields Rp_e4 hr36) ?_
              rintro v37 w38 H39 hle40 S rfl
              have Rp_e0 := Sl.mono Rp_e0 hle40
              have Rp_e1 := Sl.mono Rp_e1 hle40
              have Rp_e2 := Sl.mono Rp_e2 hle40
              have Rp_e4 := Sl.mono Rp_e4 hle40
              refine WL.valw (R.pickT rfl hb34 rfl) ?_
              exact WL.nil ⟨(congrArg boo (Option.some.inj hg35)), (by repeat (first | refine agree_upd rfl ?_ | refine agree_upds' rfl ?_ | exact agree_refl)), ⟨H39, hle40, S⟩⟩
            · replace hg35 := condF hg35 hb34
              refine WL.gno rfl rfl hb34 ?_
              refine WL.gno rfl rfl hb34 ?_
              refine WL.gno rfl rfl hb34 ?_
              refine WL.valw (R.pickF rfl hb34 rfl) ?_
              exact WL.nil ⟨(congrArg boo (Option.some.inj hg35)), (by repeat (first | refine agree_upd rfl ?_ | refine agree_upds' rfl ?_ | exact agree_refl)), ⟨H27, (Hp.le.refl _), S⟩⟩
          · intro us w43 ⟨H42, hle44, S⟩
            have Rp_e0 := Sl.mono Rp_e0 hle44
            have Rp_e1 := Sl.mono Rp_e1 hle44
            have Rp_e2 := Sl.mono Rp_e2 hle44
            have Rp_e4 := Sl.mono Rp_e4 hle44
            refine WL.valw (R.as (v := (boo b41)) rfl) ?_
            refine WL.nil ?_
            obtain rfl := Option.some.inj h
            refine WP.ret (Out.one rfl S rfl ?_)
            exact rfl
set_option maxRecDepth 10000 in
set_option maxHeartbeats 4000000 in
theorem ascii_Lower_ok {w0 : World} {H0 : Hp} (hw : Holds w0 H0) (hG : Tryz.Gl w0) (p_s : Str) {r : Str} (h : ascii_Lower p_s = some r) :
    Con Tryz.prog 83 [(str p_s)] w0 H0 (fun H' v => v = (str r)) := by
  refine Con.mk (N := 30) Tryz.func83 rfl rfl (by kernel_rfl) rfl ?_
  have S := St.start hw
  refine WP.seq ?_
  refine WP.region ?_
  refine WL.valw (R.as (v := (str [])) rfl) ?_
  refine WL.nil ?_
  refine WP.seq ?_
  refine WP.region ?_
  refine WL.valw (R.mv (v := (str p_s)) rfl) ?_
  refine W.bytes (s := p_s) S rfl Tryz.underlying9 Tryz.underlying130 Tryz.underlying5 ?_
  intro b1 c2 w3 hc2 S
  refine WL.valw (R.as (v := (.slice (some ⟨b1, 0, none⟩) p_s.length c2)) rfl) ?_
  refine WL.nil ?_
  refine WP.seq ?_
  refine WP.seq ?_
  refine WP.region ?_
  refine WL.valw (R.mv (v := (.slice (some ⟨b1, 0, none⟩) p_s.length c2)) rfl) ?_
  refine WL.valw (R.lenV rfl Tryz.underlying130) ?_
  refine WL.valw (R.mv (v := (int 0)) rfl) ?_
  refine WL.nil ?_
  obtain ⟨m14, hr20, h⟩ := bindE h
  refine WP.cut (fun f w => ∃ (H12 : Hp), f 3 = (.slice (some ⟨b1, 0, none⟩) p_s.length c2) ∧ m14.length = p_s.length ∧ St w0 H0 w H12 [.box b1 5 (m14.map byt)]) ?_ ?_
  · refine WP.block ?_
    refine WP.loopM (ascii_Lower_L0 p_s) (fun s f w => match s with | (y_8, m10) => ∃ (H4 : Hp), f 3 = (.slice (some ⟨b1, 0, none⟩) p_s.length c2) ∧ f 8 = (.slice (some ⟨b1, 0, none⟩) p_s.length c2) ∧ f 9 = (int (p_s.length : Int)) ∧ f 10 = (int y_8) ∧ m10.length = p_s.length ∧ St w0 H0 w H4 [.box b1 5 (m10.map byt)]) (0, p_s) m14 hr20 ?_ ?_
    · exact ⟨H0, rfl, rfl, rfl, rfl, rfl, S⟩
    · intro s f w hI y16 hy17 hy18
      obtain ⟨y_8, m10⟩ := s
      obtain ⟨H4, h5, h6, h7, h9, hL11, S⟩ := hI
      refine WP.seq ?_
      refine WP.region ?_
      refine WL.valw (R.lss h9 h7) ?_
      refine WL.nil ?_
      refine WP.seq ?_
      rcases condE hy17 with ⟨hc21, hy17⟩ | ⟨hc21, hy17⟩
      · refine WP.condT rfl hc21 ?_
        refine WP.skip ?_
        refine WP.seq ?_
        refine WP.block ?_
        refine WP.seq ?_
        refine WP.region ?_
        refine WL.valw (R.mv (v := (int y_8)) h9) ?_
        obtain ⟨c22, hc22, hy17⟩ := bindE hy17
        have hq23 := (map_byt_get hc22).2
        refine WL.valw (R.idxB h6 h9 el130 (by have := (map_byt_get hc22).2; have hl : m10.length = p_s.length := hL11; omega)) ?_
        obtain ⟨c24, hc24, hy17⟩ := bindE hy17
        refine WL.valw (R.loadB (i := 0) S rfl rfl lay5 (map_byt_get hc24).1) ?_
        refine WL.valw (R.as (v := (int y_8)) rfl) ?_
        refine WL.valw (R.as (v := (byt c24)) rfl) ?_
        refine WL.nil ?_
        refine WP.seq ?_
        refine WP.region ?_
        refine WL.valw (R.mv (v := (byt c24)) rfl) ?_
        refine WL.valw (R.geq8 (a := c24) (b := 65) rfl rfl) ?_
        refine WL.valw (R.mv (v := (boo (decide (65 ≤ c24)))) rfl) ?_
        refine WL.grp 3 [18, 19] 20 (boo ((decide (65 ≤ c24)) && (decide (c24 ≤ 90)))) ?_ ?_
        · rcases boolE (decide (65 ≤ c24)) with hb25 | hb25
          · refine WL.gyes rfl rfl hb25 ?_
            refine WL.valw (R.mv (v := (byt c24)) rfl) ?_
            refine WL.gyes rfl rfl hb25 ?_
            refine WL.valw (R.leq8 (a := c24) (b := 90) rfl rfl) ?_
            refine WL.valw (R.pickT rfl hb25 rfl) ?_
            exact WL.nil ⟨(andT hb25), (by repeat (first | refine agree_upd rfl ?_ | refine agree_upds' rfl ?_ | exact agree_refl)), rfl⟩
          · refine WL.gno rfl rfl hb25 ?_
            refine WL.gno rfl rfl hb25 ?_
            refine WL.valw (R.pickF rfl hb25 rfl) ?_
            exact WL.nil ⟨(andF hb25), (by repeat (first | refine agree_upd rfl ?_ | refine agree_upds' rfl ?_ | exact agree_refl)), rfl⟩
        · intro us
          refine WL.nil ?_
          rcases condE hy17 with ⟨hc27, hy17⟩ | ⟨hc27, hy17⟩
          · refine WP.condT rfl hc27 ?_
            refine WP.region ?_
            refine WL.valw (R.mv (v := (.slice (some ⟨b1, 0, none⟩) p_s.length c2)) h5) ?_
            refine WL.valw (R.mv (v := (int y_8)) rfl) ?_
            refine WL.valw (R.mv (v := (byt c24)) rfl) ?_
            refine WL.valw (R.add8 (a := c24) (b := 97) rfl rfl) ?_
            refine WL.valw (R.sub8 (a := c24 + 97) (b := 65) rfl rfl) ?_
            obtain ⟨c28, hc28, hy17⟩ := bindE hy17
            have hq29 := (map_byt_get hc28).2
            refine WL.valw (R.idxB rfl rfl el130 (by have := (map_byt_get hc28).2; have hl : m10.length = p_s.length := hL11; omega)) ?_
            refine W.store (i := 0) ((m10.set y_8.toNat ((c24 + 97) - 65)).map byt) S rfl rfl rfl lay5 rfl rfl (by rw [List.length_map]; omega) (splice_byt _ _ _ (by omega)) ?_
            intro w30 S
            refine WL.nil ?_
            refine WP.region ?_
            refine WL.valw (R.add h9 rfl) ?_
            refine WL.valw (R.mv (v := (int (wr (y_8 + 1)))) rfl) ?_
            refine WL.nil ?_
            obtain rfl := Option.some.inj hy17
            exact ⟨rfl, ⟨H4, h5, h6, h7, rfl, (List.length_set.trans hL11), S⟩⟩
          · refine WP.condF rfl hc27 ?_
            refine WP.skip ?_
            refine WP.region ?_
            refine WL.valw (R.add h9 rfl) ?_
            refine WL.valw (R.mv (v := (int (wr (y_8 + 1)))) rfl) ?_
            refine WL.nil ?_
            obtain rfl := Option.some.inj hy17
            exact ⟨rfl, ⟨H4, h5, h6, h7, rfl, hL11, S⟩⟩
      · refine WP.condF rfl hc21 ?_
        refine WP.exit ?_
        obtain rfl := Option.some.inj hy17
        obtain rfl := hy18
        exact ⟨H4, h5, hL11, S⟩
  · rintro f w ⟨H12, h13, hL15, S⟩
    refine WP.seq ?_
    refine WP.region ?_
    refine WL.valw (R.mv (v := (.slice (some ⟨b1, 0, none⟩) p_s.length c2)) h13) ?_
    refine WL.valw (R.strB (i := 0) (s := m14) S (by rw [show m14.length = p_s.length from hL15]; exact rfl) rfl Tryz.underlying130 Tryz.underlying9 Tryz.underlying5) ?_
    refine WL.valw (R.as (v := (str m14)) rfl) ?_
    refine WL.nil ?_
    obtain rfl := Option.some.inj h
    refine WP.ret (Out.one rfl S rfl ?_)
    exact rfl
set_option maxRecDepth 10000 in
set_option maxHeartbeats 4000000 in
theorem fieldline_named_1_ok {w0 : World} {H0 : Hp} (hw : Holds w0 H0) (hG : Tryz.Gl w0) (p_f : GField) (c_x0 : Str) {ac_x0 : Addr} (Ac_x0 : At H0 ac_x0 [(str c_x0)]) {r : Bool} (h : fieldline_named_1 p_f c_x0 = some r) :
    Con Tryz.prog 154 [(agg [(str p_f.fName), (str p_f.fValue)]), (.pointer (some ac_x0))] w0 H0 (fun H' v => v = (boo r)) := by
  refine Con.mk (N := 17) Tryz.func154 rfl rfl (by kernel_rfl) rfl ?_
  have S := St.start hw
  refine WP.seq ?_
  refine WP.region ?_
  refine W.box [(str p_f.fName), (str p_f.fValue)] S rfl rfl ?_
  intro b1 w2 S
  refine WL.valw (R.as (v := (boo false)) rfl) ?_
  refine WL.nil ?_
  refine WP.seq ?_
  refine WP.quiet S (by kernel_rfl) (by kernel_rfl) ?_
  refine WQ.val (fun _ _ => (R.fieldB rfl fld53_0)) ?_
  refine WQ.val (fun w hw => by obtain ⟨_, hq, S⟩ := hw; exact (R.loadB (i := 0) (v := (str p_f.fName)) S rfl rfl lay9 rfl)) ?_
  refine WQ.val (fun _ _ => (R.lenS (a := p_f.fName) rfl Tryz.underlying9)) ?_
  refine WQ.val (fun w hw => by obtain ⟨_, hq, S⟩ := hw; exact (R.loadH (v := (str c_x0)) S rfl (At.mono Ac_x0 hq (by simp)) lay9 rfl)) ?_
  refine WQ.val (fun _ _ => (R.lenS (a := c_x0) rfl Tryz.underlying9)) ?_
  refine WQ.val (fun _ _ => (R.eql rfl rfl)) ?_
  refine WQ.val (fun _ _ => (R.mv (v := (boo ((p_f.fName.length : Int) == (c_x0.length : Int)))) rfl)) ?_
  obtain ⟨b13, hg7, h⟩ := bindE h
  refine WQ.grp 6 [11, 12, 13, 14, 15] 16 (boo b13) ?_ ?_
  · rcases boolE ((p_f.fName.length : Int) == (c_x0.length : Int)) with hb6 | hb6
    · replace hg7 := condT hg7 hb6
      refine WQ.gyes rfl rfl hb6 ?_
      refine WQ.val (fun _ _ => (R.fieldB rfl fld53_0)) ?_
      refine WQ.gyes rfl rfl hb6 ?_
      refine WQ.val (fun w hw => by obtain ⟨_, hq, S⟩ := hw; exact (R.loadB (i := 0) (v := (str p_f.fName)) S rfl rfl lay9 rfl)) ?_
      refine WQ.gyes rfl rfl hb6 ?_
      obtain ⟨r8, hr8, hg7⟩ := bindE hg7
      refine WQ.call (v := (str r8)) rfl (fun w H' hq S => ascii_Lower_ok S.holds (hG.post S.post) p_f.fName hr8) ?_
      refine WQ.gyes rfl rfl hb6 ?_
      refine WQ.val (fun w hw => by obtain ⟨_, hq, S⟩ := hw; exact (R.loadH (v := (str c_x0)) S rfl (At.mono Ac_x0 hq (by simp)) lay9 rfl)) ?_
      refine WQ.gyes rfl rfl hb6 ?_
      refine WQ.val (fun _ _ => (R.eqlS (a := r8) (b := c_x0) rfl rfl)) ?_
      refine WQ.val (fun _ _ => (R.pickT rfl hb6 rfl)) ?_
      exact WQ.nil ⟨(congrArg boo (Option.some.inj hg7)), (by repeat (first | refine agree_upd rfl ?_ | refine agree_upds' rfl ?_ | exact agree_refl))⟩
    · replace hg7 := condF hg7 hb6
      refine WQ.gno rfl rfl hb6 ?_
      refine WQ.gno rfl rfl hb6 ?_
      refine WQ.gno rfl rfl hb6 ?_
      refine WQ.gno rfl rfl hb6 ?_
      refine WQ.gno rfl rfl hb6 ?_
      refine WQ.val (fun _ _ => (R.pickF rfl hb6 rfl)) ?_
      exact WQ.nil ⟨(congrArg boo (Option.some.inj hg7)), (by repeat (first | refine agree_upd rfl ?_ | refine agree_upds' rfl ?_ | exact agree_refl))⟩
  · intro us
    refine WQ.val (fun _ _ => (R.as (v := (boo b13)) rfl)) ?_
    refine WQ.nil ?_
    intro w3 H4 hle5 S
    have Ac_x0 := At.mono Ac_x0 hle5 (by simp)
    obtain rfl := Option.some.inj h
    refine WP.ret (Out.one rfl S rfl ?_)
    exact rfl
set_option maxRecDepth 10000 in
set_option maxHeartbeats 4000000 in
theorem fieldline_named_ok {w0 : World} {H0 : Hp} (hw : Holds w0 H0) (hG : Tryz.Gl w0) (p_name : Str) {r : (GField → Option Bool)} (h : fieldline_named p_name = some r) :
    Con Tryz.prog 106 [(str p_name)] w0 H0 (fun H' v => ∃ (k : FuncId) (c : List Value), v = .func (.func k) #[] c.toArray ∧ ∀ {w : World} {H : Hp}, H'.le H → Holds w H → Tryz.Gl w → ∀ (x0 : GField) (rr : Bool), r x0 = some rr → Con Tryz.prog k ([(agg [(str x0.fName), (str x0.fValue)])] ++ c) w H (fun H' v => v = (boo rr))) := by
  refine Con.mk (N := 6) Tryz.func106 rfl rfl (by kernel_rfl) rfl ?_
  have S := St.start hw
  refine WP.seq ?_
  refine WP.region ?_
  refine W.box [(str p_name)] S rfl rfl ?_
  intro b1 w2 S
  refine WL.valw (R.as (v := .nilFunc) rfl) ?_
  refine WL.nil ?_
  refine WP.seq ?_
  refine WP.region ?_
  refine WL.valw (R.loadB (i := 0) (v := (str p_name)) S rfl rfl lay9 rfl) ?_
  obtain ⟨r3, hr3, h⟩ := bindE h
  refine W.call S rfl (ascii_Lower_ok S.holds (hG.post S.post) p_name hr3) ?_
  rintro v4 w5 H6 hle7 S rfl
  refine W.store (i := 0) [(str r3)] S rfl rfl rfl lay9 rfl rfl (Nat.le_of_ble_eq_true rfl) rfl ?_
  intro w8 S
  refine WL.nil ?_
  refine WP.seq ?_
  refine WP.region ?_
  obtain ⟨H9, hle10, hs11, _, S⟩ := S.settle (i := 0) rfl
  replace S : St w0 H0 _ H9 [] := S
  have hA12 : At H9 ⟨b1, 0, none⟩ [(str r3)] := ⟨_, _, rfl, hs11, [], by simp⟩
  refine WL.valw (R.mkFunc (vs := [(.pointer (some ⟨b1, 0, none⟩))]) rfl) ?_
  refine WL.valw (R.as (v := (.func (.func 154) #[] [(.pointer (some ⟨b1, 0, none⟩))].toArray)) rfl) ?_
  refine WL.nil ?_
  obtain rfl := Option.some.inj h
  refine WP.ret (Out.one rfl S rfl ?_)
  exact ⟨_, [(.pointer (some ⟨b1, 0, none⟩))], rfl, fun hle hw hG x0 r h => fieldline_named_1_ok hw hG x0 r3 (At.mono hA12 hle (by simp)) h⟩
set_option maxRecDepth 10000 in
set_option maxHeartbeats 4000000 in
theorem fieldline_filter_ok {w0 : World} {H0 : Hp} (hw : Holds w0 H0) (hG : Tryz.Gl w0) (p_l : (List GField)) (p_keep : (GField → Option Bool)) {vp_l : Value} {kp_keep : FuncId} {cp_keep : List Value} (Rp_l : Sl (α := GField) H0 vp_l p_l) (Fp_keep : ∀ {w : World} {H : Hp}, H0.le H → Holds w H → Tryz.Gl w → ∀ (x0 : GField) (rr : Bool), p_keep x0 = some rr → Con Tryz.prog kp_keep ([(agg [(str x0.fName), (str x0.fValue)])] ++ cp_keep) w H (fun H' v => v = (boo rr))) {r : (List GField)} (h : fieldline_filter p_l p_keep = some r) :
    Con Tryz.prog 107 [vp_l, (.func (.func kp_keep) #[] cp_keep.toArray)] w0 H0 (fun H' v => Sl (α := GField) H' v r) := by
  refine Con.mk (N := 23) Tryz.func107 rfl rfl (by kernel_rfl) rfl ?_
  have S := St.start hw
  refine WP.seq ?_
  refine WP.region ?_
  refine WL.valw (R.as (v := (.slice none 0 0)) rfl) ?_
  refine WL.nil ?_
  refine WP.seq ?_
  refine WP.region ?_
  refine WL.valw (R.as (v := (.slice none 0 0)) rfl) ?_
  refine WL.nil ?_
  refine WP.seq ?_
  refine WP.seq ?_
  refine WP.region ?_
  refine WL.valw (R.mv (v := vp_l) rfl) ?_
  refine WL.valw (R.lenL (α := GField) (xs := p_l) (H := H0) Rp_l rfl Tryz.underlying24) ?_
  refine WL.valw (R.mv (v := (int 0)) rfl) ?_
  refine WL.nil ?_
  have S := S.addNil 53 2
  obtain ⟨out_12, hr20, h⟩ := bindE h
  refine WP.cut (fun f w => ∃ (H11 : Hp) (v13 : Value), f 5 = v13 ∧ Sl (α := GField) H11 v13 out_12 ∧ St w0 H0 w H11 [.row v13 53 2 out_12.length]) ?_ ?_
  · refine WP.block ?_
    refine WP.loopM (fieldline_filter_L0 p_l p_keep) (fun s f w => match s with | (out_3, y_9) => ∃ (H1 : Hp) (v4 : Value), f 1 = (.func (.func kp_keep) #[] cp_keep.toArray) ∧ f 5 = v4 ∧ f 8 = vp_l ∧ f 9 = (int (p_l.length : Int)) ∧ f 10 = (int y_9) ∧ Sl (α := GField) H1 v4 out_3 ∧ Sl (α := GField) H1 vp_l p_l ∧ St w0 H0 w H1 [.row v4 53 2 out_3.length]) (([] : List GField), 0) out_12 hr20 ?_ ?_
    · exact ⟨H0, .slice none 0 0, rfl, rfl, rfl, rfl, rfl, Sl.nil, Rp_l, S⟩
    · intro s f w hI y16 hy17 hy18
      obtain ⟨out_3, y_9⟩ := s
      obtain ⟨H1, v4, h2, h6, h7, h8, h10, R5, Rp_l, S⟩ := hI
      refine WP.seq ?_
      refine WP.region ?_
      refine WL.valw (R.lss h10 h8) ?_
      refine WL.nil ?_
      refine WP.seq ?_
      rcases condE hy17 with ⟨hc21, hy17⟩ | ⟨hc21, hy17⟩
      · refine WP.condT rfl hc21 ?_
        refine WP.skip ?_
        refine WP.seq ?_
        refine WP.block ?_
        refine WP.seq ?_
        refine WP.region ?_
        obtain ⟨x22, hx22, hy17⟩ := bindE hy17
        refine W.idx (α := GField) Rp_l h7 h10 el24 hx22 ?_
        rintro a23 _ hA24 rfl
        refine WL.valw (R.loadHN (vs := [(str x22.fName), (str x22.fValue)]) S rfl hA24 lay53 rfl rfl) ?_
        refine W.alloc [(str []), (str [])] S zer53 ?_
        intro b25 w26 S
        refine W.store (i := 0) [(str x22.fName), (str x22.fValue)] S rfl rfl rfl lay53 rfl rfl (Nat.le_of_ble_eq_true rfl) rfl ?_
        intro w27 S
        refine WL.nil ?_
        refine WP.seq ?_
        refine WP.region ?_
        refine WL.valw (R.mv (v := (.func (.func kp_keep) #[] cp_keep.toArray)) h2) ?_
        refine WL.valw (R.loadBN (i := 0) (vs := [(str x22.fName), (str x22.fValue)]) S rfl rfl lay53 rfl rfl) ?_
        obtain ⟨r28, hr28, hy17⟩ := bindE hy17
        refine W.callv S rfl rfl (Fp_keep (S.post.le) S.holds (hG.post S.post) x22 _ hr28) ?_
        rintro v29 w30 H31 hle32 S rfl
        have R5 := Sl.mono R5 hle32
        have Rp_l := Sl.mono Rp_l hle32
        have hA24 := At.mono hA24 hle32 (by simp)
        refine WL.nil ?_
        rcases condE hy17 with ⟨hc33, hy17⟩ | ⟨hc33, hy17⟩
        · refine WP.condT rfl hc33 ?_
          refine WP.region ?_
          refine WL.valw (R.mv (v := v4) h6) ?_
          refine WL.valw (R.loadBN (i := 0) (vs := [(str x22.fName), (str x22.fValue)]) S rfl rfl lay53 rfl rfl) ?_
          refine W.bslice (α := GField) [(agg [(str x22.fName), (str x22.fValue)])] ([x22] : List GField) S el24 rfl rfl rfl (by decide) (Go.Eng.encS ⟨rfl, rfl⟩ enc0) ?_
          intro u34 w35 H36 hle37 R38 S
          have R5 := Sl.mono R5 hle37
          have Rp_l := Sl.mono Rp_l hle37
          have hA24 := At.mono hA24 hle37 (by simp)
          obtain ⟨l39, hl39, hy17⟩ := bindE hy17
          refine W.app (α := GField) (i := 2) S el24 rfl rfl rfl R5 R38 hl39 ?_
          intro v40 w41 H42 hle43 R44 S
          have R5 := Sl.mono R5 hle43
          have Rp_l := Sl.mono Rp_l hle43
          have hA24 := At.mono hA24 hle43 (by simp)
          have R38 := Sl.mono R38 hle43
          refine WL.valw (R.as (v := v40) rfl) ?_
          refine WL.nil ?_
          refine WP.region ?_
          refine WL.valw (R.add h10 rfl) ?_
          refine WL.valw (R.mv (v := (int (wr (y_9 + 1)))) rfl) ?_
          refine WL.nil ?_
          obtain rfl := Option.some.inj hy17
          exact ⟨rfl, ⟨H42, v40, h2, rfl, h7, h8, rfl, R44, Rp_l, (S.drop _ (.cons _ (.cons _ (.cons_cons _ .slnil))))⟩⟩
        · refine WP.condF rfl hc33 ?_
          refine WP.skip ?_
          refine WP.region ?_
          refine WL.valw (R.add h10 rfl) ?_
          refine WL.valw (R.mv (v := (int (wr (y_9 + 1)))) rfl) ?_
          refine WL.nil ?_
          obtain rfl := Option.some.inj hy17
          exact ⟨rfl, ⟨H31, v4, h2, h6, h7, h8, rfl, R5, Rp_l, (S.drop _ (.cons _ (.cons_cons _ .slnil)))⟩⟩
      · refine WP.condF rfl hc21 ?_
        refine WP.exit ?_
        obtain rfl := Option.some.inj hy17
        obtain rfl := hy18
        exact ⟨H1, v4, h6, R5, S⟩
  · rintro f w ⟨H11, v13, h15, R14, S⟩
    refine WP.seq ?_
    refine WP.region ?_
    refine WL.valw (R.mv (v := v13) h15) ?_
    refine WL.valw (R.as (v := v13) rfl) ?_
    refine WL.nil ?_
    obtain rfl := Option.some.inj h
    refine WP.ret (Out.one rfl S rfl ?_)
    exact R14
set_option maxRecDepth 10000 in
set_option maxHeartbeats 4000000 in
theorem fieldline_Get_ok {w0 : World} {H0 : Hp} (hw : Holds w0 H0) (hG : Tryz.Gl w0) (p_l : (List GField)) (p_name : Str) {vp_l : Value} (Rp_l : Sl (α := GField) H0 vp_l p_l) {r : (List Str)} (h : fieldline_Get p_l p_name = some r) :
    Con Tryz.prog 126 [vp_l, (str p_name)] w0 H0 (fun H' v => Sl (α := Str) H' v r) := by
  refine Con.mk (N := 24) Tryz.func126 rfl rfl (by kernel_rfl) rfl ?_
  have S := St.start hw
  refine WP.seq ?_
  refine WP.region ?_
  refine WL.valw (R.as (v := (.slice none 0 0)) rfl) ?_
  refine WL.nil ?_
  refine WP.seq ?_
  refine WP.region ?_
  refine WL.valw (R.as (v := (.slice none 0 0)) rfl) ?_
  refine WL.nil ?_
  refine WP.seq ?_
  refine WP.seq ?_
  refine WP.region ?_
  refine WL.valw (R.mv (v := vp_l) rfl) ?_
  refine WL.valw (R.mv (v := (str p_name)) rfl) ?_
  obtain ⟨r1, hr1, h⟩ := bindE h
  refine W.call S rfl (fieldline_named_ok S.holds (hG.post S.post) p_name hr1) ?_
  rintro v2 w3 H4 hle5 S ⟨kr1, cr1, rfl, Fr1⟩
  have Rp_l := Sl.mono Rp_l hle5
  obtain ⟨r6, hr6, h⟩ := bindE h
  refine W.call S rfl (fieldline_filter_ok S.holds (hG.post S.post) p_l r1 Rp_l (fun hle => Fr1 (Hp.le.trans (Hp.le.refl _) hle)) hr6) ?_
  rintro v7 w8 H9 hle10 S R11
  have Rp_l := Sl.mono Rp_l hle10
  refine WL.valw (R.lenL (α := GField) (xs := r6) (H := H9) R11 rfl Tryz.underlying24) ?_
  refine WL.valw (R.mv (v := (int 0)) rfl) ?_
  refine WL.nil ?_
  have S := S.addNil 9 1
  obtain ⟨out_22, hr30, h⟩ := bindE h
  refine WP.cut (fun f w => ∃ (H21 : Hp) (v23 : Value), f 5 = v23 ∧ Sl (α := Str) H21 v23 out_22 ∧ St w0 H0 w H21 [.row v23 9 1 out_22.length]) ?_ ?_
  · refine WP.block ?_
    refine WP.loopM (fieldline_Get_L0 r6) (fun s f w => match s with | (out_13, y_19) => ∃ (H12 : Hp) (v14 : Value), f 5 = v14 ∧ f 11 = v7 ∧ f 12 = (int (r6.length : Int)) ∧ f 13 = (int y_19) ∧ Sl (α := Str) H12 v14 out_13 ∧ Sl (α := GField) H12 v7 r6 ∧ St w0 H0 w H12 [.row v14 9 1 out_13.length]) (([] : List Str), 0) out_22 hr30 ?_ ?_
    · exact ⟨H9, .slice none 0 0, rfl, rfl, rfl, rfl, Sl.nil, R11, S⟩
    · intro s f w hI y26 hy27 hy28
      obtain ⟨out_13, y_19⟩ := s
      obtain ⟨H12, v14, h16, h17, h18, h20, R15, R11, S⟩ := hI
      refine WP.seq ?_
      refine WP.region ?_
      refine WL.valw (R.lss h20 h18) ?_
      refine WL.nil ?_
      refine WP.seq ?_
      rcases condE hy27 with ⟨hc31, hy27⟩ | ⟨hc31, hy27⟩
      · refine WP.condT rfl hc31 ?_
        refine WP.skip ?_
        refine WP.seq ?_
        refine WP.block ?_
        refine WP.seq ?_
        refine WP.region ?_
        obtain ⟨x32, hx32, hy27⟩ := bindE hy27
        refine W.idx (α := GField) R11 h17 h20 el24 hx32 ?_
        rintro a33 _ hA34 rfl
        refine WL.valw (R.loadHN (vs := [(str x32.fName), (str x32.fValue)]) S rfl hA34 lay53 rfl rfl) ?_
        refine W.alloc [(str []), (str [])] S zer53 ?_
        intro b35 w36 S
        refine W.store (i := 0) [(str x32.fName), (str x32.fValue)] S rfl rfl rfl lay53 rfl rfl (Nat.le_of_ble_eq_true rfl) rfl ?_
        intro w37 S
        refine WL.nil ?_
        refine WP.region ?_
        refine WL.valw (R.mv (v := v14) h16) ?_
        refine WL.valw (R.fieldB rfl fld53_1) ?_
        refine WL.valw (R.loadB (i := 0) (v := (str x32.fValue)) S rfl rfl lay9 rfl) ?_
        refine W.bslice (α := Str) [(str x32.fValue)] ([x32.fValue] : List Str) S el23 rfl rfl rfl (by decide) (Go.Eng.encS ⟨rfl, rfl⟩ enc0) ?_
        intro u38 w39 H40 hle41 R42 S
        have R15 := Sl.mono R15 hle41
        have R11 := Sl.mono R11 hle41
        have hA34 := At.mono hA34 hle41 (by simp)
        obtain ⟨l43, hl43, hy27⟩ := bindE hy27
        refine W.app (α := Str) (i := 2) S el23 rfl rfl rfl R15 R42 hl43 ?_
        intro v44 w45 H46 hle47 R48 S
        have R15 := Sl.mono R15 hle47
        have R11 := Sl.mono R11 hle47
        have hA34 := At.mono hA34 hle47 (by simp)
        have R42 := Sl.mono R42 hle47
        refine WL.valw (R.as (v := v44) rfl) ?_
        refine WL.nil ?_
        refine WP.region ?_
        refine WL.valw (R.add h20 rfl) ?_
        refine WL.valw (R.mv (v := (int (wr (y_19 + 1)))) rfl) ?_
        refine WL.nil ?_
        obtain rfl := Option.some.inj hy27
        exact ⟨rfl, ⟨H46, v44, rfl, h17, h18, rfl, R48, R11, (S.drop _ (.cons _ (.cons _ (.cons_cons _ .slnil))))⟩⟩
      · refine WP.condF rfl hc31 ?_
        refine WP.exit ?_
        obtain rfl := Option.some.inj hy27
        obtain rfl := hy28
        exact ⟨H12, v14, h16, R15, S⟩
  · rintro f w ⟨H21, v23, h25, R24, S⟩
    refine WP.seq ?_
    refine WP.region ?_
    refine WL.valw (R.mv (v := v23) h25) ?_
    refine WL.valw (R.as (v := v23) rfl) ?_
    refine WL.nil ?_
    obtain rfl := Option.some.inj h
    refine WP.ret (Out.one rfl S rfl ?_)
    exact R24
set_option maxRecDepth 10000 in
set_option maxHeartbeats 4000000 in
theorem fieldline_First_ok {w0 : World} {H0 : Hp} (hw : Holds w0 H0) (hG : Tryz.Gl w0) (p_l : (List GField)) (p_name : Str) {vp_l : Value} (Rp_l : Sl (α := GField) H0 vp_l p_l) {r : (Str × Bool)} (h : fieldline_First p_l p_name = some r) :
    Con Tryz.prog 110 [vp_l, (str p_name)] w0 H0 (fun H' v => v = (.tuple ⟨[(str r.1), (boo r.2)]⟩)) := by
  refine Con.mk (N := 16) Tryz.func110 rfl rfl (by kernel_rfl) rfl ?_
  have S := St.start hw
  refine WP.seq ?_
  refine WP.region ?_
  refine WL.valw (R.as (v := (str [])) rfl) ?_
  refine WL.valw (R.as (v := (boo false)) rfl) ?_
  refine WL.nil ?_
  refine WP.seq ?_
  refine WP.region ?_
  refine WL.valw (R.mv (v := vp_l) rfl) ?_
  refine WL.valw (R.mv (v := (str p_name)) rfl) ?_
  obtain ⟨r1, hr1, h⟩ := bindE h
  refine W.call S rfl (fieldline_Get_ok S.holds (hG.post S.post) p_l p_name Rp_l hr1) ?_
  rintro v2 w3 H4 hle5 S R6
  have Rp_l := Sl.mono Rp_l hle5
  refine WL.valw (R.as (v := v2) rfl) ?_
  refine WL.nil ?_
  refine WP.seq ?_
  refine WP.seq ?_
  refine WP.region ?_
  refine WL.valw (R.mv (v := v2) rfl) ?_
  refine WL.valw (R.lenL (α := Str) (xs := r1) (H := H4) R6 rfl Tryz.underlying23) ?_
  refine WL.valw (R.eql rfl rfl) ?_
  refine WL.nil ?_
  rcases condE h with ⟨hc7, h⟩ | ⟨hc7, h⟩
  · refine WP.condT rfl hc7 ?_
    refine WP.seq ?_
    refine WP.region ?_
    refine WL.valw (R.as (v := (str [])) rfl) ?_
    refine WL.valw (R.as (v := (boo false)) rfl) ?_
    refine WL.nil ?_
    obtain rfl := Option.some.inj h
    refine WP.ret (Out.two rfl S rfl rfl ?_)
    exact rfl
  · refine WP.condF rfl hc7 ?_
    refine WP.skip ?_
    refine WP.seq ?_
    refine WP.region ?_
    refine WL.valw (R.mv (v := v2) rfl) ?_
    obtain ⟨x8, hx8, h⟩ := bindE h
    refine W.idx (α := Str) R6 rfl rfl el23 hx8 ?_
    rintro a9 _ hA10 rfl
    refine WL.valw (R.loadH (v := (str x8)) S rfl hA10 lay9 rfl) ?_
    refine WL.valw (R.as (v := (str x8)) rfl) ?_
    refine WL.valw (R.as (v := (boo true)) rfl) ?_
    refine WL.nil ?_
    obtain rfl := Option.some.inj h
    refine WP.ret (Out.two rfl S rfl rfl ?_)
    exact rfl
set_option maxRecDepth 10000 in
set_option maxHeartbeats 4000000 in
theorem ascii_Number_ok {w0 : World} {H0 : Hp} (hw : Holds w0 H0) (hG : Tryz.Gl w0) (p_s : Str) {r : (Int × Bool)} (h : ascii_Number p_s = some r) :
    Con Tryz.prog 111 [(str p_s)] w0 H0 (fun H' v => v = (.tuple ⟨[(int r.1), (boo r.2)]⟩)) := by
  refine Con.mk (N := 34) Tryz.func111 rfl rfl (by kernel_rfl) rfl ?_
  have S := St.start hw
  refine WP.seq ?_
  refine WP.region ?_
  refine WL.valw (R.as (v := (int 0)) rfl) ?_
  refine WL.valw (R.as (v := (boo false)) rfl) ?_
  refine WL.nil ?_
  refine WP.seq ?_
  refine WP.region ?_
  refine WL.valw (R.as (v := (int 0)) rfl) ?_
  refine WL.nil ?_
  refine WP.seq ?_
  refine WP.seq ?_
  refine WP.region ?_
  refine WL.valw (R.mv (v := (str p_s)) rfl) ?_
  refine WL.valw (R.lenS (a := p_s) rfl Tryz.underlying9) ?_
  refine WL.valw (R.mv (v := (int 0)) rfl) ?_
  refine WL.nil ?_
  obtain ⟨r15, hr16, h⟩ := bindE h
  refine WP.cut (fun f w => match r15 with | .inl n_10 => ∃ (H8 : Hp), f 0 = (str p_s) ∧ f 4 = (int n_10) ∧ St w0 H0 w H8 [] | .inr _ => False) ?_ ?_
  · refine WP.block ?_
    refine WP.loopM (ascii_Number_L0 p_s) (fun s f w => match s with | (n_3, y_6) => ∃ (H1 : Hp), f 0 = (str p_s) ∧ f 4 = (int n_3) ∧ f 7 = (int (p_s.length : Int)) ∧ f 8 = (int y_6) ∧ St w0 H0 w H1 []) (0, 0) r15 hr16 ?_ ?_
    · exact ⟨H0, rfl, rfl, rfl, rfl, S⟩
    · intro s f w hI y12 hy13 hy14
      obtain ⟨n_3, y_6⟩ := s
      obtain ⟨H1, h2, h4, h5, h7, S⟩ := hI
      refine WP.seq ?_
      refine WP.region ?_
      refine WL.valw (R.lss h7 h5) ?_
      refine WL.nil ?_
      refine WP.seq ?_
      rcases condE hy13 with ⟨hc17, hy13⟩ | ⟨hc17, hy13⟩
      · refine WP.condT rfl hc17 ?_
        refine WP.skip ?_
        refine WP.seq ?_
        refine WP.block ?_
        refine WP.seq ?_
        refine WP.region ?_
        refine WL.valw (R.mv (v := (int y_6)) h7) ?_
        refine WL.valw (R.as (v := (int y_6)) rfl) ?_
        refine WL.nil ?_
        refine WP.seq ?_
        refine WP.seq ?_
        refine WP.region ?_
        refine WL.valw (R.mv (v := (str p_s)) h2) ?_
        refine WL.valw (R.mv (v := (int y_6)) rfl) ?_
        obtain ⟨c18, hc18, hy13⟩ := bindE hy13
        refine WL.valw (R.idxS rfl rfl Tryz.underlying9 hc18) ?_
        refine WL.valw (R.lss8 (a := c18) (b := 48) rfl rfl) ?_
        refine WL.valw (R.mv (v := (boo (decide (c18 < 48)))) rfl) ?_
        obtain ⟨b22, hg20, hy13⟩ := bindE hy13
        refine WL.grp 5 [16, 17, 18, 19] 20 (boo b22) ?_ ?_
        · rcases boolE (decide (c18 < 48)) with hb19 | hb19
          · replace hg20 := condT hg20 hb19
            refine WL.gno rfl rfl hb19 ?_
            refine WL.gno rfl rfl hb19 ?_
            refine WL.gno rfl rfl hb19 ?_
            refine WL.gno rfl rfl hb19 ?_
            refine WL.valw (R.pickT rfl hb19 rfl) ?_
            exact WL.nil ⟨(congrArg boo (Option.some.inj hg20)), (by repeat (first | refine agree_upd rfl ?_ | refine agree_upds' rfl ?_ | exact agree_refl)), rfl⟩
          · replace hg20 := condF hg20 hb19
            refine WL.gyes rfl rfl hb19 ?_
            refine WL.valw (R.mv (v := (str p_s)) h2) ?_
            refine WL.gyes rfl rfl hb19 ?_
            refine WL.valw (R.mv (v := (int y_6)) rfl) ?_
            refine WL.gyes rfl rfl hb19 ?_
            obtain ⟨c21, hc21, hg20⟩ := bindE hg20
            refine WL.valw (R.idxS rfl rfl Tryz.underlying9 hc21) ?_
            refine WL.gyes rfl rfl hb19 ?_
            refine WL.valw (R.gtr8 (a := c21) (b := 57) rfl rfl) ?_
            refine WL.valw (R.pickF rfl hb19 rfl) ?_
            exact WL.nil ⟨(congrArg boo (Option.some.inj hg20)), (by repeat (first | refine agree_upd rfl ?_ | refine agree_upds' rfl ?_ | exact agree_refl)), rfl⟩
        · intro us
          refine WL.nil ?_
          rcases condE hy13 with ⟨hc23, hy13⟩ | ⟨hc23, hy13⟩
          · refine WP.condT rfl hc23 ?_
            refine WP.seq ?_
            refine WP.region ?_
            refine WL.valw (R.as (v := (int 0)) rfl) ?_
            refine WL.valw (R.as (v := (boo false)) rfl) ?_
            refine WL.nil ?_
            obtain rfl := Option.some.inj hy13
            obtain rfl := hy14
            obtain rfl := Option.some.inj h
            refine WP.ret (Out.two rfl S rfl rfl ?_)
            exact rfl
          · refine WP.condF rfl hc23 ?_
            refine WP.skip ?_
            refine WP.region ?_
            refine WL.valw (R.mv (v := (int n_3)) h4) ?_
            refine WL.valw (R.mul rfl rfl) ?_
            refine WL.valw (R.mv (v := (str p_s)) h2) ?_
            refine WL.valw (R.mv (v := (int y_6)) rfl) ?_
            obtain ⟨c24, hc24, hy13⟩ := bindE hy13
            refine WL.valw (R.idxS rfl rfl Tryz.underlying9 hc24) ?_
            refine WL.valw (R.sub8 (a := c24) (b := 48) rfl rfl) ?_
            refine WL.valw (R.i64of8 (a := c24 - 48) rfl Tryz.underlying5 Tryz.underlying2) ?_
            refine WL.valw (R.add rfl rfl) ?_
            refine WL.valw (R.min rfl rfl) ?_
            refine WL.valw (R.as (v := (int (if 2147483647 < (wr ((wr (10 * n_3)) + ((c24 - 48).toNat : Int))) then 2147483647 else (wr ((wr (10 * n_3)) + ((c24 - 48).toNat : Int)))))) rfl) ?_
            refine WL.nil ?_
            refine WP.region ?_
            refine WL.valw (R.add h7 rfl) ?_
            refine WL.valw (R.mv (v := (int (wr (y_6 + 1)))) rfl) ?_
            refine WL.nil ?_
            obtain rfl := Option.some.inj hy13
            exact ⟨rfl, ⟨H1, h2, rfl, h5, rfl, S⟩⟩
      · refine WP.condF rfl hc17 ?_
        refine WP.exit ?_
        obtain rfl := Option.some.inj hy13
        obtain rfl := hy14
        exact ⟨H1, h2, h4, S⟩
  · intro f w hM
    rcases r15 with n_10 | e
    · obtain ⟨H8, h9, h11, S⟩ := hM
      refine WP.seq ?_
      refine WP.region ?_
      refine WL.valw (R.mv (v := (int n_10)) h11) ?_
      refine WL.valw (R.mv (v := (str p_s)) h9) ?_
      refine WL.valw (R.neqS (a := p_s) (b := []) rfl rfl) ?_
      refine WL.valw (R.as (v := (int n_10)) rfl) ?_
      refine WL.valw (R.as (v := (boo (p_s != []))) rfl) ?_
      refine WL.nil ?_
      obtain rfl := Option.some.inj h
      refine WP.ret (Out.two rfl S rfl rfl ?_)
      exact rfl
    · exact hM.elim
set_option maxRecDepth 10000 in
set_option maxHeartbeats 4000000 in
theorem date_index_ok {w0 : World} {H0 : Hp} (hw : Holds w0 H0) (hG : Tryz.Gl w0) (p_n : Int) (p_name : (Int → Option Str)) (p_s : Str) {kp_name : FuncId} {cp_name : List Value} (Fp_name : ∀ {w : World} {H : Hp}, H0.le H → Holds w H → Tryz.Gl w → ∀ (x0 : Int) (rr : Str), p_name x0 = some rr → Con Tryz.prog kp_name ([(int x0)] ++ cp_name) w H (fun H' v => v = (str rr))) {r : Int} (h : date_index p_n p_name p_s = some r) :
    Con Tryz.prog 223 [(int p_n), (.func (.func kp_name) #[] cp_name.toArray), (str p_s)] w0 H0 (fun H' v => v = (int r)) := by
  refine Con.mk (N := 19) Tryz.func223 rfl rfl (by kernel_rfl) rfl ?_
  have S := St.start hw
  refine WP.seq ?_
  refine WP.region ?_
  refine WL.valw (R.as (v := (int 0)) rfl) ?_
  refine WL.nil ?_
  refine WP.seq ?_
  refine WP.seq ?_
  refine WP.region ?_
  refine WL.valw (R.mv (v := (int p_n)) rfl) ?_
  refine WL.valw (R.mv (v := (int 0)) rfl) ?_
  refine WL.nil ?_
  obtain ⟨r11, hr12, h⟩ := bindE h
  refine WP.cut (fun f w => match r11 with | .inl _ => ∃ (H7 : Hp), St w0 H0 w H7 [] | .inr _ => False) ?_ ?_
  · refine WP.block ?_
    refine WP.loopM (date_index_L0 p_n p_name p_s) (fun s f w => match s with | y_5 => ∃ (H1 : Hp), f 1 = (.func (.func kp_name) #[] cp_name.toArray) ∧ f 2 = (str p_s) ∧ f 8 = (int p_n) ∧ f 9 = (int y_5) ∧ St w0 H0 w H1 []) 0 r11 hr12 ?_ ?_
    · exact ⟨H0, rfl, rfl, rfl, rfl, S⟩
    · intro y_5 f w hI y8 hy9 hy10
      obtain ⟨H1, h2, h3, h4, h6, S⟩ := hI
      refine WP.seq ?_
      refine WP.region ?_
      refine WL.valw (R.lss h6 h4) ?_
      refine WL.nil ?_
      refine WP.seq ?_
      rcases condE hy9 with ⟨hc13, hy9⟩ | ⟨hc13, hy9⟩
      · refine WP.condT rfl hc13 ?_
        refine WP.skip ?_
        refine WP.seq ?_
        refine WP.block ?_
        refine WP.seq ?_
        refine WP.region ?_
        refine WL.valw (R.mv (v := (int y_5)) h6) ?_
        refine WL.valw (R.as (v := (int y_5)) rfl) ?_
        refine WL.nil ?_
        refine WP.seq ?_
        refine WP.region ?_
        refine WL.valw (R.mv (v := (.func (.func kp_name) #[] cp_name.toArray)) h2) ?_
        refine WL.valw (R.mv (v := (int y_5)) rfl) ?_
        obtain ⟨r14, hr14, hy9⟩ := bindE hy9
        refine W.callv S rfl rfl (Fp_name (S.post.le) S.holds (hG.post S.post) y_5 _ hr14) ?_
        rintro v15 w16 H17 hle18 S rfl
        refine WL.valw (R.mv (v := (str p_s)) h3) ?_
        refine WL.valw (R.eqlS (a := r14) (b := p_s) rfl rfl) ?_
        refine WL.nil ?_
        rcases condE hy9 with ⟨hc19, hy9⟩ | ⟨hc19, hy9⟩
        · refine WP.condT rfl hc19 ?_
          refine WP.seq ?_
          refine WP.region ?_
          refine WL.valw (R.mv (v := (int y_5)) rfl) ?_
          refine WL.valw (R.as (v := (int y_5)) rfl) ?_
          refine WL.nil ?_
          obtain rfl := Option.some.inj hy9
          obtain rfl := hy10
          obtain rfl := Option.some.inj h
          refine WP.ret (Out.one rfl S rfl ?_)
          exact rfl
        · refine WP.condF rfl hc19 ?_
          refine WP.skip ?_
          refine WP.region ?_
          refine WL.valw (R.add h6 rfl) ?_
          refine WL.valw (R.mv (v := (int (wr (y_5 + 1)))) rfl) ?_
          refine WL.nil ?_
          obtain rfl := Option.some.inj hy9
          exact ⟨rfl, ⟨H17, h2, h3, h4, rfl, S⟩⟩
      · refine WP.condF rfl hc13 ?_
        refine WP.exit ?_
        obtain rfl := Option.some.inj hy9
        obtain rfl := hy10
        exact ⟨H1, S⟩
  · intro f w hM
    rcases r11 with _ | e
    · obtain ⟨H7, S⟩ := hM
      refine WP.seq ?_
      refine WP.region ?_
      refine WL.valw (R.as (v := (int (-1))) rfl) ?_
      refine WL.nil ?_
      obtain rfl := Option.some.inj h
      refine WP.ret (Out.one rfl S rfl ?_)
      exact rfl
    · exact hM.elim
set_option maxRecDepth 10000 in
set_option maxHeartbeats 4000000 in
theorem date_monthName_ok {w0 : World} {H0 : Hp} (hw : Holds w0 H0) (hG : Tryz.Gl w0) (p_i : Int) {r : Str} (h : date_monthName p_i = some r) :
    Con Tryz.prog 224 [(int p_i)] w0 H0 (fun H' v => v = (str r)) := by
  refine Con.mk (N := 6) Tryz.func224 rfl rfl (by kernel_rfl) rfl ?_
  have S := St.start hw
  refine WP.seq ?_
  refine WP.region ?_
  refine WL.valw (R.as (v := (str [])) rfl) ?_
  refine WL.nil ?_
  refine WP.seq ?_
  refine WP.region ?_
  refine WL.valw (R.buildArr [(0, (str [74, 97, 110])), (1, (str [70, 101, 98])), (2, (str [77, 97, 114])), (3, (str [65, 112, 114])), (4, (str [77, 97, 121])), (5, (str [74, 117, 110])), (6, (str [74, 117, 108])), (7, (str [65, 117, 103])), (8, (str [83, 101, 112])), (9, (str [79, 99, 116])), (10, (str [78, 111, 118])), (11, (str [68, 101, 99]))] [(str [74, 97, 110]), (str [70, 101, 98]), (str [77, 97, 114]), (str [65, 112, 114]), (str [77, 97, 121]), (str [74, 117, 110]), (str [74, 117, 108]), (str [65, 117, 103]), (str [83, 101, 112]), (str [79, 99, 116]), (str [78, 111, 118]), (str [68, 101, 99])] Tryz.underlying242 lay9 zer242 rfl rfl) ?_
  refine WL.valw (R.mv (v := (int p_i)) rfl) ?_
  obtain ⟨s1, hs1, h⟩ := bindE h
  refine WL.valw (R.idxA str (l := ([[74, 97, 110], [70, 101, 98], [77, 97, 114], [65, 112, 114], [77, 97, 121], [74, 117, 110], [74, 117, 108], [65, 117, 103], [83, 101, 112], [79, 99, 116], [78, 111, 118], [68, 101, 99]] : List Str)) rfl rfl Tryz.underlying242 lay9 rfl hs1) ?_
  refine WL.valw (R.as (v := (str s1)) rfl) ?_
  refine WL.nil ?_
  obtain rfl := Option.some.inj h
  refine WP.ret (Out.one rfl S rfl ?_)
  exact rfl
set_option maxRecDepth 10000 in
set_option maxHeartbeats 4000000 in
theorem date_leap_ok {w0 : World} {H0 : Hp} (hw : Holds w0 H0) (hG : Tryz.Gl w0) (p_year : Int) {r : Bool} (h : date_leap p_year = some r) :
    Con Tryz.prog 251 [(int p_year)] w0 H0 (fun H' v => v = (boo r)) := by
  refine Con.mk (N := 16) Tryz.func251 rfl rfl (by kernel_rfl) rfl ?_
  have S := St.start hw
  refine WP.seq ?_
  refine WP.region ?_
  refine WL.valw (R.as (v := (boo false)) rfl) ?_
  refine WL.nil ?_
  refine WP.seq ?_
  refine WP.region ?_
  refine WL.valw (R.mv (v := (int p_year)) rfl) ?_
  obtain ⟨n1, hn1, h⟩ := bindE h
  refine WL.valw (R.rem' rfl rfl hn1) ?_
  refine WL.valw (R.eql rfl rfl) ?_
  refine WL.valw (R.mv (v := (boo (n1 == 0))) rfl) ?_
  obtain ⟨b9, hg3, h⟩ := bindE h
  refine WL.grp 9 [7, 8, 9, 10, 11, 12, 13, 14] 15 (boo b9) ?_ ?_
  · rcases boolE (n1 == 0) with hb2 | hb2
    · replace hg3 := condT hg3 hb2
      refine WL.gyes rfl rfl hb2 ?_
      refine WL.valw (R.mv (v := (int p_year)) rfl) ?_
      refine WL.gyes rfl rfl hb2 ?_
      obtain ⟨n4, hn4, hg3⟩ := bindE hg3
      refine WL.valw (R.rem' rfl rfl hn4) ?_
      refine WL.gyes rfl rfl hb2 ?_
      refine WL.valw (R.neq rfl rfl) ?_
      refine WL.gyes rfl rfl hb2 ?_
      refine WL.valw (R.mv (v := (boo (n4 != 0))) rfl) ?_
      obtain ⟨b8, hg6, hg3⟩ := bindE hg3
      refine WL.grp 4 [11, 12, 13] 14 (boo b8) ?_ ?_
      · rcases boolE (n4 != 0) with hb5 | hb5
        · replace hg6 := condT hg6 hb5
          refine WL.gno rfl rfl hb5 ?_
          refine WL.gno rfl rfl hb5 ?_
          refine WL.gno rfl rfl hb5 ?_
          refine WL.gyes rfl rfl hb2 ?_
          refine WL.valw (R.pickT rfl hb5 rfl) ?_
          exact WL.nil ⟨(congrArg boo (Option.some.inj hg6)), (by repeat (first | refine agree_upd rfl ?_ | refine agree_upds' rfl ?_ | exact agree_refl)), rfl⟩
        · replace hg6 := condF hg6 hb5
          refine WL.gyes rfl rfl hb5 ?_
          refine WL.valw (R.mv (v := (int p_year)) rfl) ?_
          refine WL.gyes rfl rfl hb5 ?_
          obtain ⟨n7, hn7, hg6⟩ := bindE hg6
          refine WL.valw (R.rem' rfl rfl hn7) ?_
          refine WL.gyes rfl rfl hb5 ?_
          refine WL.valw (R.eql rfl rfl) ?_
          refine WL.gyes rfl rfl hb2 ?_
          refine WL.valw (R.pickF rfl hb5 rfl) ?_
          exact WL.nil ⟨(congrArg boo (Option.some.inj hg6)), (by repeat (first | refine agree_upd rfl ?_ | refine agree_upds' rfl ?_ | exact agree_refl)), rfl⟩
      · intro us
        refine WL.valw (R.pickT rfl hb2 rfl) ?_
        exact WL.nil ⟨(congrArg boo (Option.some.inj hg3)), (by repeat (first | refine agree_upd rfl ?_ | refine agree_upds' rfl ?_ | exact agree_refl)), rfl⟩
    · replace hg3 := condF hg3 hb2
      refine WL.gno rfl rfl hb2 ?_
      refine WL.gno rfl rfl hb2 ?_
      refine WL.gno rfl rfl hb2 ?_
      refine WL.gno rfl rfl hb2 ?_
      refine WL.gund rfl rfl ?_
      refine WL.gund rfl rfl ?_
      refine WL.gund rfl rfl ?_
      refine WL.gno rfl rfl hb2 ?_
      refine WL.valw (R.pickF rfl hb2 rfl) ?_
      exact WL.nil ⟨(congrArg boo (Option.some.inj hg3)), (by repeat (first | refine agree_upd rfl ?_ | refine agree_upds' rfl ?_ | exact agree_refl)), rfl⟩
  · intro us
    refine WL.valw (R.as (v := (boo b9)) rfl) ?_
    refine WL.nil ?_
    obtain rfl := Option.some.inj h
    refine WP.ret (Out.one rfl S rfl ?_)
    exact rfl
set_option maxRecDepth 10000 in
set_option maxHeartbeats 4000000 in
theorem date_length_ok {w0 : World} {H0 : Hp} (hw : Holds w0 H0) (hG : Tryz.Gl w0) (p_year : Int) (p_month : Int) {r : Int} (h : date_length p_year p_month = some r) :
    Con Tryz.prog 244 [(int p_year), (int p_month)] w0 H0 (fun H' v => v = (int r)) := by
  refine Con.mk (N := 15) Tryz.func244 rfl rfl (by kernel_rfl) rfl ?_
  have S := St.start hw
  refine WP.seq ?_
  refine WP.region ?_
  refine WL.valw (R.as (v := (int 0)) rfl) ?_
  refine WL.nil ?_
  refine WP.seq ?_
  refine WP.seq ?_
  refine WP.region ?_
  refine WL.valw (R.mv (v := (int p_month)) rfl) ?_
  refine WL.valw (R.eql rfl rfl) ?_
  refine WL.valw (R.mv (v := (boo (p_month == 2))) rfl) ?_
  obtain ⟨b8, hg2, h⟩ := bindE h
  refine WL.grpw 3 [8, 9] 10 (boo b8) (fun w => ∃ H' : Hp, H0.le H' ∧ St w0 H0 w H' []) ?_ ?_
  · rcases boolE (p_month == 2) with hb1 | hb1
    · replace hg2 := condT hg2 hb1
      refine WL.gyes rfl rfl hb1 ?_
      refine WL.valw (R.mv (v := (int p_year)) rfl) ?_
      refine WL.gyes rfl rfl hb1 ?_
      obtain ⟨r3, hr3, hg2⟩ := bindE hg2
      refine W.call S rfl (date_leap_ok S.holds (hG.post S.post) p_year hr3) ?_
      rintro v4 w5 H6 hle7 S rfl
      refine WL.valw (R.pickT rfl hb1 rfl) ?_
      exact WL.nil ⟨(congrArg boo (Option.some.inj hg2)), (by repeat (first | refine agree_upd rfl ?_ | refine agree_upds' rfl ?_ | exact agree_refl)), ⟨H6, hle7, S⟩⟩
    · replace hg2 := condF hg2 hb1
      refine WL.gno rfl rfl hb1 ?_
      refine WL.gno rfl rfl hb1 ?_
      refine WL.valw (R.pickF rfl hb1 rfl) ?_
      exact WL.nil ⟨(congrArg boo (Option.some.inj hg2)), (by repeat (first | refine agree_upd rfl ?_ | refine agree_upds' rfl ?_ | exact agree_refl)), ⟨H0, (Hp.le.refl _), S⟩⟩
  · intro us w10 ⟨H9, hle11, S⟩
    refine WL.nil ?_
    rcases condE h with ⟨hc12, h⟩ | ⟨hc12, h⟩
    · refine WP.condT rfl hc12 ?_
      refine WP.seq ?_
      refine WP.region ?_
      refine WL.valw (R.as (v := (int 29)) rfl) ?_
      refine WL.nil ?_
      obtain rfl := Option.some.inj h
      refine WP.ret (Out.one rfl S rfl ?_)
      exact rfl
    · refine WP.condF rfl hc12 ?_
      refine WP.skip ?_
      refine WP.seq ?_
      refine WP.region ?_
      refine WL.valw (R.buildArr [(0, (int 31)), (1, (int 28)), (2, (int 31)), (3, (int 30)), (4, (int 31)), (5, (int 30)), (6, (int 31)), (7, (int 31)), (8, (int 30)), (9, (int 31)), (10, (int 30)), (11, (int 31))] [(int 31), (int 28), (int 31), (int 30), (int 31), (int 30), (int 31), (int 31), (int 30), (int 31), (int 30), (int 31)] Tryz.underlying257 lay3 zer257 rfl rfl) ?_
      refine WL.valw (R.mv (v := (int p_month)) rfl) ?_
      refine WL.valw (R.sub rfl rfl) ?_
      obtain ⟨n13, hn13, h⟩ := bindE h
      refine WL.valw (R.idxA int (l := ([31, 28, 31, 30, 31, 30, 31, 31, 30, 31, 30, 31] : List Int)) rfl rfl Tryz.underlying257 lay3 rfl hn13) ?_
      refine WL.valw (R.as (v := (int n13)) rfl) ?_
      refine WL.nil ?_
      obtain rfl := Option.some.inj h
      refine WP.ret (Out.one rfl S rfl ?_)
      exact rfl
set_option maxRecDepth 10000 in
set_option maxHeartbeats 4000000 in
theorem date_before_ok {w0 : World} {H0 : Hp} (hw : Holds w0 H0) (hG : Tryz.Gl w0) (p_year : Int) {r : Int} (h : date_before p_year = some r) :
    Con Tryz.prog 245 [(int p_year)] w0 H0 (fun H' v => v = (int r)) := by
  refine Con.mk (N := 17) Tryz.func245 rfl rfl (by kernel_rfl) rfl ?_
  have S := St.start hw
  refine WP.seq ?_
  refine WP.region ?_
  refine WL.valw (R.as (v := (int 0)) rfl) ?_
  refine WL.nil ?_
  refine WP.seq ?_
  refine WP.region ?_
  refine WL.valw (R.mv (v := (int p_year)) rfl) ?_
  refine WL.valw (R.sub rfl rfl) ?_
  refine WL.valw (R.as (v := (int (wr (p_year - 1)))) rfl) ?_
  refine WL.nil ?_
  refine WP.seq ?_
  refine WP.region ?_
  refine WL.valw (R.mv (v := (int (wr (p_year - 1)))) rfl) ?_
  refine WL.valw (R.mul rfl rfl) ?_
  refine WL.valw (R.mv (v := (int (wr (p_year - 1)))) rfl) ?_
  obtain ⟨n1, hn1, h⟩ := bindE h
  refine WL.valw (R.quo' rfl rfl hn1) ?_
  refine WL.valw (R.add rfl rfl) ?_
  refine WL.valw (R.mv (v := (int (wr (p_year - 1)))) rfl) ?_
  obtain ⟨n2, hn2, h⟩ := bindE h
  refine WL.valw (R.quo' rfl rfl hn2) ?_
  refine WL.valw (R.sub rfl rfl) ?_
  refine WL.valw (R.mv (v := (int (wr (p_year - 1)))) rfl) ?_
  obtain ⟨n3, hn3, h⟩ := bindE h
  refine WL.valw (R.quo' rfl rfl hn3) ?_
  refine WL.valw (R.add rfl rfl) ?_
  refine WL.valw (R.as (v := (int (wr ((wr ((wr ((wr (365 * (wr (p_year - 1)))) + n1)) - n2)) + n3)))) rfl) ?_
  refine WL.nil ?_
  obtain rfl := Option.some.inj h
  refine WP.ret (Out.one rfl S rfl ?_)
  exact rfl
set_option maxRecDepth 10000 in
set_option maxHeartbeats 4000000 in
theorem date_Days_ok {w0 : World} {H0 : Hp} (hw : Holds w0 H0) (hG : Tryz.Gl w0) (p_year : Int) (p_month : Int) (p_day : Int) {r : Int} (h : date_Days p_year p_month p_day = some r) :
    Con Tryz.prog 225 [(int p_year), (int p_month), (int p_day)] w0 H0 (fun H' v => v = (int r)) := by
  refine Con.mk (N := 52) Tryz.func225 rfl rfl (by kernel_rfl) rfl ?_
  have S := St.start hw
  refine WP.seq ?_
  refine WP.region ?_
  refine WL.valw (R.as (v := (int 0)) rfl) ?_
  refine WL.nil ?_
  refine WP.seq ?_
  refine WP.seq ?_
  refine WP.region ?_
  refine WL.valw (R.mv (v := (int p_year)) rfl) ?_
  refine WL.valw (R.lss rfl rfl) ?_
  refine WL.valw (R.mv (v := (boo (decide (p_year < 1970)))) rfl) ?_
  refine WL.grp 3 [12, 13] 14 (boo ((decide (p_year < 1970)) || (decide (9999 < p_year)))) ?_ ?_
  · rcases boolE (decide (p_year < 1970)) with hb1 | hb1
    · refine WL.gno rfl rfl hb1 ?_
      refine WL.gno rfl rfl hb1 ?_
      refine WL.valw (R.pickT rfl hb1 rfl) ?_
      exact WL.nil ⟨(orT hb1), (by repeat (first | refine agree_upd rfl ?_ | refine agree_upds' rfl ?_ | exact agree_refl)), rfl⟩
    · refine WL.gyes rfl rfl hb1 ?_
      refine WL.valw (R.mv (v := (int p_year)) rfl) ?_
      refine WL.gyes rfl rfl hb1 ?_
      refine WL.valw (R.gtr rfl rfl) ?_
      refine WL.valw (R.pickF rfl hb1 rfl) ?_
      exact WL.nil ⟨(orF hb1), (by repeat (first | refine agree_upd rfl ?_ | refine agree_upds' rfl ?_ | exact agree_refl)), rfl⟩
  · intro us
    refine WL.valw (R.mv (v := (boo ((decide (p_year < 1970)) || (decide (9999 < p_year))))) rfl) ?_
    refine WL.grp 3 [16, 17] 18 (boo (((decide (p_year < 1970)) || (decide (9999 < p_year))) || (decide (p_month < 1)))) ?_ ?_
    · rcases boolE ((decide (p_year < 1970)) || (decide (9999 < p_year))) with hb3 | hb3
      · refine WL.gno rfl rfl hb3 ?_
        refine WL.gno rfl rfl hb3 ?_
        refine WL.valw (R.pickT rfl hb3 rfl) ?_
        exact WL.nil ⟨(orT hb3), (by repeat (first | refine agree_upd rfl ?_ | refine agree_upds' rfl ?_ | exact agree_refl)), rfl⟩
      · refine WL.gyes rfl rfl hb3 ?_
        refine WL.valw (R.mv (v := (int p_month)) rfl) ?_
        refine WL.gyes rfl rfl hb3 ?_
        refine WL.valw (R.lss rfl rfl) ?_
        refine WL.valw (R.pickF rfl hb3 rfl) ?_
        exact WL.nil ⟨(orF hb3), (by repeat (first | refine agree_upd rfl ?_ | refine agree_upds' rfl ?_ | exact agree_refl)), rfl⟩
    · intro us
      refine WL.valw (R.mv (v := (boo (((decide (p_year < 1970)) || (decide (9999 < p_year))) || (decide (p_month < 1))))) rfl) ?_
      refine WL.grp 3 [20, 21] 22 (boo ((((decide (p_year < 1970)) || (decide (9999 < p_year))) || (decide (p_month < 1))) || (decide (12 < p_month)))) ?_ ?_
      · rcases boolE (((decide (p_year < 1970)) || (decide (9999 < p_year))) || (decide (p_month < 1))) with hb5 | hb5
        · refine WL.gno rfl rfl hb5 ?_
          refine WL.gno rfl rfl hb5 ?_
          refine WL.valw (R.pickT rfl hb5 rfl) ?_
          exact WL.nil ⟨(orT hb5), (by repeat (first | refine agree_upd rfl ?_ | refine agree_upds' rfl ?_ | exact agree_refl)), rfl⟩
        · refine WL.gyes rfl rfl hb5 ?_
          refine WL.valw (R.mv (v := (int p_month)) rfl) ?_
          refine WL.gyes rfl rfl hb5 ?_
          refine WL.valw (R.gtr rfl rfl) ?_
          refine WL.valw (R.pickF rfl hb5 rfl) ?_
          exact WL.nil ⟨(orF hb5), (by repeat (first | refine agree_upd rfl ?_ | refine agree_upds' rfl ?_ | exact agree_refl)), rfl⟩
      · intro us
        refine WL.valw (R.mv (v := (boo ((((decide (p_year < 1970)) || (decide (9999 < p_year))) || (decide (p_month < 1))) || (decide (12 < p_month))))) rfl) ?_
        refine WL.grp 3 [24, 25] 26 (boo (((((decide (p_year < 1970)) || (decide (9999 < p_year))) || (decide (p_month < 1))) || (decide (12 < p_month))) || (decide (p_day < 1)))) ?_ ?_
        · rcases boolE ((((decide (p_year < 1970)) || (decide (9999 < p_year))) || (decide (p_month < 1))) || (decide (12 < p_month))) with hb7 | hb7
          · refine WL.gno rfl rfl hb7 ?_
            refine WL.gno rfl rfl hb7 ?_
            refine WL.valw (R.pickT rfl hb7 rfl) ?_
            exact WL.nil ⟨(orT hb7), (by repeat (first | refine agree_upd rfl ?_ | refine agree_upds' rfl ?_ | exact agree_refl)), rfl⟩
          · refine WL.gyes rfl rfl hb7 ?_
            refine WL.valw (R.mv (v := (int p_day)) rfl) ?_
            refine WL.gyes rfl rfl hb7 ?_
            refine WL.valw (R.lss rfl rfl) ?_
            refine WL.valw (R.pickF rfl hb7 rfl) ?_
            exact WL.nil ⟨(orF hb7), (by repeat (first | refine agree_upd rfl ?_ | refine agree_upds' rfl ?_ | exact agree_refl)), rfl⟩
        · intro us
          refine WL.valw (R.mv (v := (boo (((((decide (p_year < 1970)) || (decide (9999 < p_year))) || (decide (p_month < 1))) || (decide (12 < p_month))) || (decide (p_day < 1))))) rfl) ?_
          obtain ⟨b16, hg10, h⟩ := bindE h
          refine WL.grpw 6 [28, 29, 30, 31, 32] 33 (boo b16) (fun w => ∃ H' : Hp, H0.le H' ∧ St w0 H0 w H' []) ?_ ?_
          · rcases boolE (((((decide (p_year < 1970)) || (decide (9999 < p_year))) || (decide (p_month < 1))) || (decide (12 < p_month))) || (decide (p_day < 1))) with hb9 | hb9
            · replace hg10 := condT hg10 hb9
              refine WL.gno rfl rfl hb9 ?_
              refine WL.gno rfl rfl hb9 ?_
              refine WL.gno rfl rfl hb9 ?_
              refine WL.gno rfl rfl hb9 ?_
              refine WL.gno rfl rfl hb9 ?_
              refine WL.valw (R.pickT rfl hb9 rfl) ?_
              exact WL.nil ⟨(congrArg boo (Option.some.inj hg10)), (by repeat (first | refine agree_upd rfl ?_ | refine agree_upds' rfl ?_ | exact agree_refl)), ⟨H0, (Hp.le.refl _), S⟩⟩
            · replace hg10 := condF hg10 hb9
              refine WL.gyes rfl rfl hb9 ?_
              refine WL.valw (R.mv (v := (int p_day)) rfl) ?_
              refine WL.gyes rfl rfl hb9 ?_
              refine WL.valw (R.mv (v := (int p_year)) rfl) ?_
              refine WL.gyes rfl rfl hb9 ?_
              refine WL.valw (R.mv (v := (int p_month)) rfl) ?_
              refine WL.gyes rfl rfl hb9 ?_
              obtain ⟨r11, hr11, hg10⟩ := bindE hg10
              refine W.call S rfl (date_length_ok S.holds (hG.post S.post) p_year p_month hr11) ?_
              rintro v12 w13 H14 hle15 S rfl
              refine WL.gyes rfl rfl hb9 ?_
              refine WL.valw (R.gtr rfl rfl) ?_
              refine WL.valw (R.pickF rfl hb9 rfl) ?_
              exact WL.nil ⟨(congrArg boo (Option.some.inj hg10)), (by repeat (first | refine agree_upd rfl ?_ | refine agree_upds' rfl ?_ | exact agree_refl)), ⟨H14, hle15, S⟩⟩
          · intro us w18 ⟨H17, hle19, S⟩
            refine WL.nil ?_
            rcases condE h with ⟨hc20, h⟩ | ⟨hc20, h⟩
            · refine WP.condT rfl hc20 ?_
              refine WP.seq ?_
              refine WP.region ?_
              refine WL.valw (R.as (v := (int (-1))) rfl) ?_
              refine WL.nil ?_
              obtain rfl := Option.some.inj h
              refine WP.ret (Out.one rfl S rfl ?_)
              exact rfl
            · refine WP.condF rfl hc20 ?_
              refine WP.skip ?_
              refine WP.seq ?_
              refine WP.region ?_
              refine WL.valw (R.mv (v := (int p_year)) rfl) ?_
              obtain ⟨r21, hr21, h⟩ := bindE h
              refine W.call S rfl (date_before_ok S.holds (hG.post S.post) p_year hr21) ?_
              rintro v22 w23 H24 hle25 S rfl
              obtain ⟨r26, hr26, h⟩ := bindE h
              refine W.call S rfl (date_before_ok S.holds (hG.post S.post) 1970 hr26) ?_
              rintro v27 w28 H29 hle30 S rfl
              refine WL.valw (R.sub rfl rfl) ?_
              refine WL.valw (R.mv (v := (int p_day)) rfl) ?_
              refine WL.valw (R.add rfl rfl) ?_
              refine WL.valw (R.sub rfl rfl) ?_
              refine WL.valw (R.as (v := (int (wr ((wr ((wr (r21 - r26)) + p_day)) - 1)))) rfl) ?_
              refine WL.nil ?_
              refine WP.seq ?_
              refine WP.seq ?_
              refine WP.region ?_
              refine WL.valw (R.as (v := (int 1)) rfl) ?_
              refine WL.nil ?_
              obtain ⟨n_39, hr45, h⟩ := bindE h
              refine WP.cut (fun f w => ∃ (H38 : Hp), f 7 = (int n_39) ∧ St w0 H0 w H38 []) ?_ ?_
              · refine WP.block ?_
                refine WP.loopM (date_Days_L0 p_year p_month) (fun s f w => match s with | (n_34, m_36) => ∃ (H31 : Hp), f 0 = (int p_year) ∧ f 1 = (int p_month) ∧ f 7 = (int n_34) ∧ f 8 = (int m_36) ∧ St w0 H0 w H31 []) (wr ((wr ((wr (r21 - r26)) + p_day)) - 1), 1) n_39 hr45 ?_ ?_
                · exact ⟨H29, rfl, rfl, rfl, rfl, S⟩
                · intro s f w hI y41 hy42 hy43
                  obtain ⟨n_34, m_36⟩ := s
                  obtain ⟨H31, h32, h33, h35, h37, S⟩ := hI
                  refine WP.seq ?_
                  refine WP.seq ?_
                  refine WP.region ?_
                  refine WL.valw (R.mv (v := (int m_36)) h37) ?_
                  refine WL.valw (R.mv (v := (int p_month)) h33) ?_
                  refine WL.valw (R.lss rfl rfl) ?_
                  refine WL.nil ?_
                  rcases condE hy42 with ⟨hc46, hy42⟩ | ⟨hc46, hy42⟩
                  · refine WP.condT rfl hc46 ?_
                    refine WP.skip ?_
                    refine WP.seq ?_
                    refine WP.block ?_
                    refine WP.region ?_
                    refine WL.valw (R.mv (v := (int n_34)) h35) ?_
                    refine WL.valw (R.mv (v := (int p_year)) h32) ?_
                    refine WL.valw (R.mv (v := (int m_36)) h37) ?_
                    obtain ⟨r47, hr47, hy42⟩ := bindE hy42
                    refine W.call S rfl (date_length_ok S.holds (hG.post S.post) p_year m_36 hr47) ?_
                    rintro v48 w49 H50 hle51 S rfl
                    refine WL.valw (R.add rfl rfl) ?_
                    refine WL.valw (R.as (v := (int (wr (n_34 + r47)))) rfl) ?_
                    refine WL.nil ?_
                    refine WP.region ?_
                    refine WL.valw (R.mv (v := (int m_36)) h37) ?_
                    refine WL.valw (R.add rfl rfl) ?_
                    refine WL.valw (R.as (v := (int (wr (m_36 + 1)))) rfl) ?_
                    refine WL.nil ?_
                    obtain rfl := Option.some.inj hy42
                    exact ⟨rfl, ⟨H50, h32, h33, rfl, rfl, S⟩⟩
                  · refine WP.condF rfl hc46 ?_
                    refine WP.exit ?_
                    obtain rfl := Option.some.inj hy42
                    obtain rfl := hy43
                    exact ⟨H31, h35, S⟩
              · rintro f w ⟨H38, h40, S⟩
                refine WP.seq ?_
                refine WP.region ?_
                refine WL.valw (R.mv (v := (int n_39)) h40) ?_
                refine WL.valw (R.as (v := (int n_39)) rfl) ?_
                refine WL.nil ?_
                obtain rfl := Option.some.inj h
                refine WP.ret (Out.one rfl S rfl ?_)
                exact rfl
set_option maxRecDepth 10000 in
set_option maxHeartbeats 4000000 in
theorem date_dayName_ok {w0 : World} {H0 : Hp} (hw : Holds w0 H0) (hG : Tryz.Gl w0) (p_i : Int) {r : Str} (h : date_dayName p_i = some r) :
    Con Tryz.prog 226 [(int p_i)] w0 H0 (fun H' v => v = (str r)) := by
  refine Con.mk (N := 6) Tryz.func226 rfl rfl (by kernel_rfl) rfl ?_
  have S := St.start hw
  refine WP.seq ?_
  refine WP.region ?_
  refine WL.valw (R.as (v := (str [])) rfl) ?_
  refine WL.nil ?_
  refine WP.seq ?_
  refine WP.region ?_
  refine WL.valw (R.buildArr [(0, (str [77, 111, 110])), (1, (str [84, 117, 101])), (2, (str [87, 101, 100])), (3, (str [84, 104, 117])), (4, (str [70, 114, 105])), (5, (str [83, 97, 116])), (6, (str [83, 117, 110]))] [(str [77, 111, 110]), (str [84, 117, 101]), (str [87, 101, 100]), (str [84, 104, 117]), (str [70, 114, 105]), (str [83, 97, 116]), (str [83, 117, 110])] Tryz.underlying245 lay9 zer245 rfl rfl) ?_
  refine WL.valw (R.mv (v := (int p_i)) rfl) ?_
  obtain ⟨s1, hs1, h⟩ := bindE h
  refine WL.valw (R.idxA str (l := ([[77, 111, 110], [84, 117, 101], [87, 101, 100], [84, 104, 117], [70, 114, 105], [83, 97, 116], [83, 117, 110]] : List Str)) rfl rfl Tryz.underlying245 lay9 rfl hs1) ?_
  refine WL.valw (R.as (v := (str s1)) rfl) ?_
  refine WL.nil ?_
  obtain rfl := Option.some.inj h
  refine WP.ret (Out.one rfl S rfl ?_)
  exact rfl
end Go.Proofs
