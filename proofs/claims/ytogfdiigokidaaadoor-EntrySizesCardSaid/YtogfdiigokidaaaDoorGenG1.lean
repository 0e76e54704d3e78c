/- A part of the proof of laws of the seat: written by program over the translation. -/
import Derived.Test.YtogfdiigokidaaaDoorPure
import Derived.Test.YtogfdiigokidaaaDoorProg
import Derived.Test.YtogfdiigokidaaaDoorShelf
namespace Go.Proofs
open Go.Eng Go.Eng.Pure
set_option linter.unusedVariables false
theorem lay9 : lay Tryd.prog 9 = some (false, 1) := by kernel_rfl
theorem el23 : Elem Tryd.prog 23 9 1 := elem_of (by kernel_rfl)
theorem lay23 : lay Tryd.prog 23 = some (false, 1) := by kernel_rfl
theorem el22 : Elem Tryd.prog 22 23 1 := elem_of (by kernel_rfl)
theorem fld39_0 : fld Tryd.prog 39 0 = some 0 := by kernel_rfl
theorem fld39_1 : fld Tryd.prog 39 1 = some 1 := by kernel_rfl
theorem el24 : Elem Tryd.prog 24 39 2 := elem_of (by kernel_rfl)
theorem fld26_0 : fld Tryd.prog 26 0 = some 0 := by kernel_rfl
theorem lay22 : lay Tryd.prog 22 = some (false, 1) := by kernel_rfl
theorem fld26_1 : fld Tryd.prog 26 1 = some 1 := by kernel_rfl
theorem fld26_2 : fld Tryd.prog 26 2 = some 2 := by kernel_rfl
theorem fld26_3 : fld Tryd.prog 26 3 = some 3 := by kernel_rfl
theorem fld26_5 : fld Tryd.prog 26 5 = some 5 := by kernel_rfl
theorem fld26_4 : fld Tryd.prog 26 4 = some 4 := by kernel_rfl
theorem lay24 : lay Tryd.prog 24 = some (false, 1) := by kernel_rfl
theorem lay39 : lay Tryd.prog 39 = some (true, 2) := by kernel_rfl
theorem zer39 : zer Tryd.prog 39 = some [(str []), (str [])] := by kernel_rfl
theorem lay5 : lay Tryd.prog 5 = some (false, 1) := by kernel_rfl
theorem el73 : Elem Tryd.prog 73 5 1 := elem_of (by kernel_rfl)
theorem zer74 : zer Tryd.prog 74 = some [(str []), (str []), (str []), (str []), (str []), (str []), (str []), (str []), (str []), (str []), (str []), (str [])] := by kernel_rfl
theorem lay3 : lay Tryd.prog 3 = some (false, 1) := by kernel_rfl
theorem zer80 : zer Tryd.prog 80 = some [(int 0), (int 0), (int 0), (int 0), (int 0), (int 0), (int 0), (int 0), (int 0), (int 0), (int 0), (int 0)] := by kernel_rfl
theorem zer77 : zer Tryd.prog 77 = some [(str []), (str []), (str []), (str []), (str []), (str []), (str [])] := by kernel_rfl
theorem zer69 : zer Tryd.prog 69 = some [(str []), (str []), (str []), (str []), (str [])] := by kernel_rfl
theorem zer68 : zer Tryd.prog 68 = some [(int 0), (int 0), (int 0), (int 0), (int 0)] := by kernel_rfl
theorem fld26_6 : fld Tryd.prog 26 6 = some 6 := by kernel_rfl
theorem lay2 : lay Tryd.prog 2 = some (false, 1) := by kernel_rfl
theorem fld26_7 : fld Tryd.prog 26 7 = some 7 := by kernel_rfl
theorem ps39 : plainS Tryd.prog 39 = true := by kernel_rfl
theorem fk39 : fieldK Tryd.prog 39 = [some 2, some 2] := by kernel_rfl
theorem lay26 : lay Tryd.prog 26 = some (true, 8) := by kernel_rfl
theorem zer26 : zer Tryd.prog 26 = some [(.slice none 0 0), (.slice none 0 0), (.slice none 0 0), (str []), (.slice none 0 0), (str []), (int 0), (int 0)] := by kernel_rfl
theorem lay63 : lay Tryd.prog 63 = some (false, 1) := by kernel_rfl
theorem zer63 : zer Tryd.prog 63 = some [.nilFunc] := by kernel_rfl
theorem bp39 : bplaces Tryd.prog 39 = some [(0, 1), (1, 1)] := by kernel_rfl
theorem bp46 : bplaces Tryd.prog 46 = some [(0, 1), (1, 1), (2, 1), (3, 1), (4, 1)] := by kernel_rfl
theorem zer46 : zer Tryd.prog 46 = some [(int 0), (int 0), (str []), (.slice none 0 0), (str [])] := by kernel_rfl
theorem lay46 : lay Tryd.prog 46 = some (true, 5) := by kernel_rfl
theorem bp26 : bplaces Tryd.prog 26 = some [(0, 1), (1, 1), (2, 1), (3, 1), (4, 1), (5, 1), (6, 1), (7, 1)] := by kernel_rfl
theorem fld46_1 : fld Tryd.prog 46 1 = some 1 := by kernel_rfl
theorem fld46_4 : fld Tryd.prog 46 4 = some 4 := by kernel_rfl
theorem fld46_3 : fld Tryd.prog 46 3 = some 3 := by kernel_rfl
/-- What lies laid: the tables of the library that are read. -/
structure Tryd.Gl (w : World) : Prop where
  pow10 : Lib.TabIs Tryd.prog w "internal/strconv.uint64pow10" .u64 Lib.pow10Tab
theorem Tryd.Gl.post {w0 w : World} {H0 H : Hp} (h : Tryd.Gl w0) (p : Post w0 H0 w H) : Tryd.Gl w :=
  ⟨tab_post (by kernel_rfl : Tryd.prog.globalNamed "internal/strconv.uint64pow10" = some 0) h.pow10 p⟩
theorem strconv_Itoa_ok {w0 : World} {H0 : Hp} (hw : Holds w0 H0) (hG : Tryd.Gl w0) (p_i : Int) {r : Str} (h : strconv_Itoa p_i = some r) :
    Con Tryd.prog 49 [(int p_i)] w0 H0 (fun H' v => v = (str r)) :=
  itoaCon Tryd.func49 rfl (by kernel_rfl) hw hG.pow10 h Tryd.strconv_Itoa

set_option maxRecDepth 10000 in
set_option maxHeartbeats 4000000 in
theorem keep_Strings_ok {w0 : World} {H0 : Hp} (hw : Holds w0 H0) (hG : Tryd.Gl w0) (p_l : (List Str)) {vp_l : Value} (Rp_l : Sl (α := Str) H0 vp_l p_l) {r : Bool} (h : keep_Strings p_l = some r) :
    Con Tryd.prog 14 [vp_l] w0 H0 (fun H' v => v = (boo r)) := by
  refine Con.mk (N := 23) Tryd.func14 rfl rfl (by kernel_rfl) rfl ?_
  have S := St.start hw
  refine WP.seq ?_
  refine WP.region ?_
  refine WL.valw (R.as (v := (boo false)) rfl) ?_
  refine WL.nil ?_
  refine WP.seq ?_
  refine WP.seq ?_
  refine WP.region ?_
  refine WL.valw (R.as (v := (int 0)) rfl) ?_
  refine WL.nil ?_
  obtain ⟨r10, hr11, h⟩ := bindE h
  refine WP.cut (fun f w => match r10 with | .inl _ => ∃ (H5 : Hp), f 0 = vp_l ∧ Sl (α := Str) H5 vp_l p_l ∧ St w0 H0 w H5 [] | .inr _ => False) ?_ ?_
  · refine WP.block ?_
    refine WP.loopM (keep_Strings_L0 p_l) (fun s f w => match s with | i_3 => ∃ (H1 : Hp), f 0 = vp_l ∧ f 3 = (int i_3) ∧ Sl (α := Str) H1 vp_l p_l ∧ St w0 H0 w H1 []) 0 r10 hr11 ?_ ?_
    · exact ⟨H0, rfl, rfl, Rp_l, S⟩
    · intro i_3 f w hI y7 hy8 hy9
      obtain ⟨H1, h2, h4, Rp_l, S⟩ := hI
      refine WP.seq ?_
      refine WP.seq ?_
      refine WP.region ?_
      refine WL.valw (R.mv (v := (int i_3)) h4) ?_
      refine WL.valw (R.mv (v := vp_l) h2) ?_
      refine WL.valw (R.lenL (α := Str) (xs := p_l) (H := H1) Rp_l rfl Tryd.underlying23) ?_
      refine WL.valw (R.lss rfl rfl) ?_
      refine WL.valw (R.mv (v := (boo (decide (i_3 < (p_l.length : Int))))) rfl) ?_
      refine WL.grp 3 [9, 10] 11 (boo ((decide (i_3 < (p_l.length : Int))) && (decide (i_3 < 21)))) ?_ ?_
      · rcases boolE (decide (i_3 < (p_l.length : Int))) with hb12 | hb12
        · refine WL.gyes rfl rfl hb12 ?_
          refine WL.valw (R.mv (v := (int i_3)) h4) ?_
          refine WL.gyes rfl rfl hb12 ?_
          refine WL.valw (R.lss rfl rfl) ?_
          refine WL.valw (R.pickT rfl hb12 rfl) ?_
          exact WL.nil ⟨(andT hb12), (by repeat (first | refine agree_upd rfl ?_ | refine agree_upds' rfl ?_ | exact agree_refl)), rfl⟩
        · refine WL.gno rfl rfl hb12 ?_
          refine WL.gno rfl rfl hb12 ?_
          refine WL.valw (R.pickF rfl hb12 rfl) ?_
          exact WL.nil ⟨(andF hb12), (by repeat (first | refine agree_upd rfl ?_ | refine agree_upds' rfl ?_ | exact agree_refl)), rfl⟩
      · intro us
        refine WL.nil ?_
        rcases condE hy8 with ⟨hc14, hy8⟩ | ⟨hc14, hy8⟩
        · refine WP.condT rfl hc14 ?_
          refine WP.skip ?_
          refine WP.seq ?_
          refine WP.block ?_
          refine WP.seq ?_
          refine WP.region ?_
          refine WL.valw (R.mv (v := vp_l) h2) ?_
          refine WL.valw (R.mv (v := (int i_3)) h4) ?_
          obtain ⟨x15, hx15, hy8⟩ := bindE hy8
          refine W.idx (α := Str) Rp_l rfl rfl el23 hx15 ?_
          rintro a16 _ hA17 rfl
          refine WL.valw (R.loadH (v := (str x15)) S rfl hA17 lay9 rfl) ?_
          refine WL.valw (R.lenS (a := x15) rfl Tryd.underlying9) ?_
          refine WL.valw (R.gtr rfl rfl) ?_
          refine WL.nil ?_
          rcases condE hy8 with ⟨hc18, hy8⟩ | ⟨hc18, hy8⟩
          · refine WP.condT rfl hc18 ?_
            refine WP.seq ?_
            refine WP.region ?_
            refine WL.valw (R.as (v := (boo false)) rfl) ?_
            refine WL.nil ?_
            obtain rfl := Option.some.inj hy8
            obtain rfl := hy9
            obtain rfl := Option.some.inj h
            refine WP.ret (Out.one rfl S rfl ?_)
            exact rfl
          · refine WP.condF rfl hc18 ?_
            refine WP.skip ?_
            refine WP.region ?_
            refine WL.valw (R.mv (v := (int i_3)) h4) ?_
            refine WL.valw (R.add rfl rfl) ?_
            refine WL.valw (R.as (v := (int (wr (i_3 + 1)))) rfl) ?_
            refine WL.nil ?_
            obtain rfl := Option.some.inj hy8
            exact ⟨rfl, ⟨H1, h2, rfl, Rp_l, S⟩⟩
        · refine WP.condF rfl hc14 ?_
          refine WP.exit ?_
          obtain rfl := Option.some.inj hy8
          obtain rfl := hy9
          exact ⟨H1, h2, Rp_l, S⟩
  · intro f w hM
    rcases r10 with _ | e
    · obtain ⟨H5, h6, Rp_l, S⟩ := hM
      refine WP.seq ?_
      refine WP.region ?_
      refine WL.valw (R.mv (v := vp_l) h6) ?_
      refine WL.valw (R.lenL (α := Str) (xs := p_l) (H := H5) Rp_l rfl Tryd.underlying23) ?_
      refine WL.valw (R.leq rfl rfl) ?_
      refine WL.valw (R.as (v := (boo (decide ((p_l.length : Int) ≤ 20)))) rfl) ?_
      refine WL.nil ?_
      obtain rfl := Option.some.inj h
      refine WP.ret (Out.one rfl S rfl ?_)
      exact rfl
    · exact hM.elim
set_option maxRecDepth 10000 in
set_option maxHeartbeats 4000000 in
theorem keep_Keys_ok {w0 : World} {H0 : Hp} (hw : Holds w0 H0) (hG : Tryd.Gl w0) (p_l : (List (List Str))) {vp_l : Value} (Rp_l : Sl (α := (List Str)) H0 vp_l p_l) {r : Bool} (h : keep_Keys p_l = some r) :
    Con Tryd.prog 13 [vp_l] w0 H0 (fun H' v => v = (boo r)) := by
  refine Con.mk (N := 23) Tryd.func13 rfl rfl (by kernel_rfl) rfl ?_
  have S := St.start hw
  refine WP.seq ?_
  refine WP.region ?_
  refine WL.valw (R.as (v := (boo false)) rfl) ?_
  refine WL.nil ?_
  refine WP.seq ?_
  refine WP.seq ?_
  refine WP.region ?_
  refine WL.valw (R.as (v := (int 0)) rfl) ?_
  refine WL.nil ?_
  obtain ⟨r10, hr11, h⟩ := bindE h
  refine WP.cut (fun f w => match r10 with | .inl _ => ∃ (H5 : Hp), f 0 = vp_l ∧ Sl (α := (List Str)) H5 vp_l p_l ∧ St w0 H0 w H5 [] | .inr _ => False) ?_ ?_
  · refine WP.block ?_
    refine WP.loopM (keep_Keys_L0 p_l) (fun s f w => match s with | i_3 => ∃ (H1 : Hp), f 0 = vp_l ∧ f 3 = (int i_3) ∧ Sl (α := (List Str)) H1 vp_l p_l ∧ St w0 H0 w H1 []) 0 r10 hr11 ?_ ?_
    · exact ⟨H0, rfl, rfl, Rp_l, S⟩
    · intro i_3 f w hI y7 hy8 hy9
      obtain ⟨H1, h2, h4, Rp_l, S⟩ := hI
      refine WP.seq ?_
      refine WP.seq ?_
      refine WP.region ?_
      refine WL.valw (R.mv (v := (int i_3)) h4) ?_
      refine WL.valw (R.mv (v := vp_l) h2) ?_
      refine WL.valw (R.lenL (α := (List Str)) (xs := p_l) (H := H1) Rp_l rfl Tryd.underlying22) ?_
      refine WL.valw (R.lss rfl rfl) ?_
      refine WL.valw (R.mv (v := (boo (decide (i_3 < (p_l.length : Int))))) rfl) ?_
      refine WL.grp 3 [9, 10] 11 (boo ((decide (i_3 < (p_l.length : Int))) && (decide (i_3 < 11)))) ?_ ?_
      · rcases boolE (decide (i_3 < (p_l.length : Int))) with hb12 | hb12
        · refine WL.gyes rfl rfl hb12 ?_
          refine WL.valw (R.mv (v := (int i_3)) h4) ?_
          refine WL.gyes rfl rfl hb12 ?_
          refine WL.valw (R.lss rfl rfl) ?_
          refine WL.valw (R.pickT rfl hb12 rfl) ?_
          exact WL.nil ⟨(andT hb12), (by repeat (first | refine agree_upd rfl ?_ | refine agree_upds' rfl ?_ | exact agree_refl)), rfl⟩
        · refine WL.gno rfl rfl hb12 ?_
          refine WL.gno rfl rfl hb12 ?_
          refine WL.valw (R.pickF rfl hb12 rfl) ?_
          exact WL.nil ⟨(andF hb12), (by repeat (first | refine agree_upd rfl ?_ | refine agree_upds' rfl ?_ | exact agree_refl)), rfl⟩
      · intro us
        refine WL.nil ?_
        rcases condE hy8 with ⟨hc14, hy8⟩ | ⟨hc14, hy8⟩
        · refine WP.condT rfl hc14 ?_
          refine WP.skip ?_
          refine WP.seq ?_
          refine WP.block ?_
          refine WP.seq ?_
          refine WP.region ?_
          refine WL.valw (R.mv (v := vp_l) h2) ?_
          refine WL.valw (R.mv (v := (int i_3)) h4) ?_
          obtain ⟨x15, hx15, hy8⟩ := bindE hy8
          refine W.idx (α := (List Str)) Rp_l rfl rfl el22 hx15 ?_
          rintro a16 _ hA17 ⟨v18, rfl, R19⟩
          refine WL.valw (R.loadH (v := v18) S rfl hA17 lay23 rfl) ?_
          obtain ⟨r20, hr20, hy8⟩ := bindE hy8
          refine W.call S rfl (keep_Strings_ok S.holds (hG.post S.post) x15 R19 hr20) ?_
          rintro v21 w22 H23 hle24 S rfl
          have Rp_l := Sl.mono Rp_l hle24
          have hA17 := At.mono hA17 hle24 (by simp)
          have R19 := Sl.mono R19 hle24
          refine WL.valw (R.not rfl) ?_
          refine WL.nil ?_
          rcases condE hy8 with ⟨hc25, hy8⟩ | ⟨hc25, hy8⟩
          · refine WP.condT rfl hc25 ?_
            refine WP.seq ?_
            refine WP.region ?_
            refine WL.valw (R.as (v := (boo false)) rfl) ?_
            refine WL.nil ?_
            obtain rfl := Option.some.inj hy8
            obtain rfl := hy9
            obtain rfl := Option.some.inj h
            refine WP.ret (Out.one rfl S rfl ?_)
            exact rfl
          · refine WP.condF rfl hc25 ?_
            refine WP.skip ?_
            refine WP.region ?_
            refine WL.valw (R.mv (v := (int i_3)) h4) ?_
            refine WL.valw (R.add rfl rfl) ?_
            refine WL.valw (R.as (v := (int (wr (i_3 + 1)))) rfl) ?_
            refine WL.nil ?_
            obtain rfl := Option.some.inj hy8
            exact ⟨rfl, ⟨H23, h2, rfl, Rp_l, S⟩⟩
        · refine WP.condF rfl hc14 ?_
          refine WP.exit ?_
          obtain rfl := Option.some.inj hy8
          obtain rfl := hy9
          exact ⟨H1, h2, Rp_l, S⟩
  · intro f w hM
    rcases r10 with _ | e
    · obtain ⟨H5, h6, Rp_l, S⟩ := hM
      refine WP.seq ?_
      refine WP.region ?_
      refine WL.valw (R.mv (v := vp_l) h6) ?_
      refine WL.valw (R.lenL (α := (List Str)) (xs := p_l) (H := H5) Rp_l rfl Tryd.underlying22) ?_
      refine WL.valw (R.leq rfl rfl) ?_
      refine WL.valw (R.as (v := (boo (decide ((p_l.length : Int) ≤ 10)))) rfl) ?_
      refine WL.nil ?_
      obtain rfl := Option.some.inj h
      refine WP.ret (Out.one rfl S rfl ?_)
      exact rfl
    · exact hM.elim
set_option maxRecDepth 10000 in
set_option maxHeartbeats 4000000 in
theorem keep_Fields_ok {w0 : World} {H0 : Hp} (hw : Holds w0 H0) (hG : Tryd.Gl w0) (p_l : (List GField)) {vp_l : Value} (Rp_l : Sl (α := GField) H0 vp_l p_l) {r : Bool} (h : keep_Fields p_l = some r) :
    Con Tryd.prog 15 [vp_l] w0 H0 (fun H' v => v = (boo r)) := by
  refine Con.mk (N := 33) Tryd.func15 rfl rfl (by kernel_rfl) rfl ?_
  have S := St.start hw
  refine WP.seq ?_
  refine WP.region ?_
  refine WL.valw (R.as (v := (boo false)) rfl) ?_
  refine WL.nil ?_
  refine WP.seq ?_
  refine WP.seq ?_
  refine WP.region ?_
  refine WL.valw (R.as (v := (int 0)) rfl) ?_
  refine WL.nil ?_
  obtain ⟨r10, hr11, h⟩ := bindE h
  refine WP.cut (fun f w => match r10 with | .inl _ => ∃ (H5 : Hp), f 0 = vp_l ∧ Sl (α := GField) H5 vp_l p_l ∧ St w0 H0 w H5 [] | .inr _ => False) ?_ ?_
  · refine WP.block ?_
    refine WP.loopM (keep_Fields_L0 p_l) (fun s f w => match s with | i_3 => ∃ (H1 : Hp), f 0 = vp_l ∧ f 3 = (int i_3) ∧ Sl (α := GField) H1 vp_l p_l ∧ St w0 H0 w H1 []) 0 r10 hr11 ?_ ?_
    · exact ⟨H0, rfl, rfl, Rp_l, S⟩
    · intro i_3 f w hI y7 hy8 hy9
      obtain ⟨H1, h2, h4, Rp_l, S⟩ := hI
      refine WP.seq ?_
      refine WP.seq ?_
      refine WP.region ?_
      refine WL.valw (R.mv (v := (int i_3)) h4) ?_
      refine WL.valw (R.mv (v := vp_l) h2) ?_
      refine WL.valw (R.lenL (α := GField) (xs := p_l) (H := H1) Rp_l rfl Tryd.underlying24) ?_
      refine WL.valw (R.lss rfl rfl) ?_
      refine WL.valw (R.mv (v := (boo (decide (i_3 < (p_l.length : Int))))) rfl) ?_
      refine WL.grp 3 [9, 10] 11 (boo ((decide (i_3 < (p_l.length : Int))) && (decide (i_3 < 71)))) ?_ ?_
      · rcases boolE (decide (i_3 < (p_l.length : Int))) with hb12 | hb12
        · refine WL.gyes rfl rfl hb12 ?_
          refine WL.valw (R.mv (v := (int i_3)) h4) ?_
          refine WL.gyes rfl rfl hb12 ?_
          refine WL.valw (R.lss rfl rfl) ?_
          refine WL.valw (R.pickT rfl hb12 rfl) ?_
          exact WL.nil ⟨(andT hb12), (by repeat (first | refine agree_upd rfl ?_ | refine agree_upds' rfl ?_ | exact agree_refl)), rfl⟩
        · refine WL.gno rfl rfl hb12 ?_
          refine WL.gno rfl rfl hb12 ?_
          refine WL.valw (R.pickF rfl hb12 rfl) ?_
          exact WL.nil ⟨(andF hb12), (by repeat (first | refine agree_upd rfl ?_ | refine agree_upds' rfl ?_ | exact agree_refl)), rfl⟩
      · intro us
        refine WL.nil ?_
        rcases condE hy8 with ⟨hc14, hy8⟩ | ⟨hc14, hy8⟩
        · refine WP.condT rfl hc14 ?_
          refine WP.skip ?_
          refine WP.seq ?_
          refine WP.block ?_
          refine WP.seq ?_
          refine WP.region ?_
          refine WL.valw (R.mv (v := vp_l) h2) ?_
          refine WL.valw (R.mv (v := (int i_3)) h4) ?_
          obtain ⟨x15, hx15, hy8⟩ := bindE hy8
          refine W.idx (α := GField) Rp_l rfl rfl el24 hx15 ?_
          rintro a16 _ hA17 rfl
          refine WL.valw (R.field rfl fld39_0) ?_
          have hA18 := At.add hA17 0 (by simp)
          refine WL.valw (R.loadH (v := (str x15.fName)) S rfl hA18 lay9 rfl) ?_
          refine WL.valw (R.lenS (a := x15.fName) rfl Tryd.underlying9) ?_
          refine WL.valw (R.gtr rfl rfl) ?_
          refine WL.valw (R.mv (v := (boo (decide (300 < (x15.fName.length : Int))))) rfl) ?_
          obtain ⟨b25, hg20, hy8⟩ := bindE hy8
          refine WL.grp 8 [22, 23, 24, 25, 26, 27, 28] 29 (boo b25) ?_ ?_
          · rcases boolE (decide (300 < (x15.fName.length : Int))) with hb19 | hb19
            · replace hg20 := condT hg20 hb19
              refine WL.gno rfl rfl hb19 ?_
              refine WL.gno rfl rfl hb19 ?_
              refine WL.gno rfl rfl hb19 ?_
              refine WL.gno rfl rfl hb19 ?_
              refine WL.gno rfl rfl hb19 ?_
              refine WL.gno rfl rfl hb19 ?_
              refine WL.gno rfl rfl hb19 ?_
              refine WL.valw (R.pickT rfl hb19 rfl) ?_
              exact WL.nil ⟨(congrArg boo (Option.some.inj hg20)), (by repeat (first | refine agree_upd rfl ?_ | refine agree_upds' rfl ?_ | exact agree_refl)), rfl⟩
            · replace hg20 := condF hg20 hb19
              refine WL.gyes rfl rfl hb19 ?_
              refine WL.valw (R.mv (v := vp_l) h2) ?_
              refine WL.gyes rfl rfl hb19 ?_
              refine WL.valw (R.mv (v := (int i_3)) h4) ?_
              refine WL.gyes rfl rfl hb19 ?_
              obtain ⟨x21, hx21, hg20⟩ := bindE hg20
              refine W.idx (α := GField) Rp_l rfl rfl el24 hx21 ?_
              rintro a22 _ hA23 rfl
              refine WL.gyes rfl rfl hb19 ?_
              refine WL.valw (R.field rfl fld39_1) ?_
              have hA24 := At.add hA23 1 (by simp)
              refine WL.gyes rfl rfl hb19 ?_
              refine WL.valw (R.loadH (v := (str x21.fValue)) S rfl hA24 lay9 rfl) ?_
              refine WL.gyes rfl rfl hb19 ?_
              refine WL.valw (R.lenS (a := x21.fValue) rfl Tryd.underlying9) ?_
              refine WL.gyes rfl rfl hb19 ?_
              refine WL.valw (R.gtr rfl rfl) ?_
              refine WL.valw (R.pickF rfl hb19 rfl) ?_
              exact WL.nil ⟨(congrArg boo (Option.some.inj hg20)), (by repeat (first | refine agree_upd rfl ?_ | refine agree_upds' rfl ?_ | exact agree_refl)), rfl⟩
          · intro us
            refine WL.nil ?_
            rcases condE hy8 with ⟨hc26, hy8⟩ | ⟨hc26, hy8⟩
            · refine WP.condT rfl hc26 ?_
              refine WP.seq ?_
              refine WP.region ?_
              refine WL.valw (R.as (v := (boo false)) rfl) ?_
              refine WL.nil ?_
              obtain rfl := Option.some.inj hy8
              obtain rfl := hy9
              obtain rfl := Option.some.inj h
              refine WP.ret (Out.one rfl S rfl ?_)
              exact rfl
            · refine WP.condF rfl hc26 ?_
              refine WP.skip ?_
              refine WP.region ?_
              refine WL.valw (R.mv (v := (int i_3)) h4) ?_
              refine WL.valw (R.add rfl rfl) ?_
              refine WL.valw (R.as (v := (int (wr (i_3 + 1)))) rfl) ?_
              refine WL.nil ?_
              obtain rfl := Option.some.inj hy8
              exact ⟨rfl, ⟨H1, h2, rfl, Rp_l, S⟩⟩
        · refine WP.condF rfl hc14 ?_
          refine WP.exit ?_
          obtain rfl := Option.some.inj hy8
          obtain rfl := hy9
          exact ⟨H1, h2, Rp_l, S⟩
  · intro f w hM
    rcases r10 with _ | e
    · obtain ⟨H5, h6, Rp_l, S⟩ := hM
      refine WP.seq ?_
      refine WP.region ?_
      refine WL.valw (R.mv (v := vp_l) h6) ?_
      refine WL.valw (R.lenL (α := GField) (xs := p_l) (H := H5) Rp_l rfl Tryd.underlying24) ?_
      refine WL.valw (R.leq rfl rfl) ?_
      refine WL.valw (R.as (v := (boo (decide ((p_l.length : Int) ≤ 70)))) rfl) ?_
      refine WL.nil ?_
      obtain rfl := Option.some.inj h
      refine WP.ret (Out.one rfl S rfl ?_)
      exact rfl
    · exact hM.elim
set_option maxRecDepth 10000 in
set_option maxHeartbeats 4000000 in
theorem keep_Entry_ok {w0 : World} {H0 : Hp} (hw : Holds w0 H0) (hG : Tryd.Gl w0) (p_e : GEntry) {vp_e0 : Value} {vp_e1 : Value} {vp_e2 : Value} {vp_e4 : Value} (Rp_e0 : Sl (α := (List Str)) H0 vp_e0 p_e.fKeys) (Rp_e1 : Sl (α := Str) H0 vp_e1 p_e.fVary) (Rp_e2 : Sl (α := Str) H0 vp_e2 p_e.fSnapshot) (Rp_e4 : Sl (α := GField) H0 vp_e4 p_e.fFields) {r : Bool} (h : keep_Entry p_e = some r) :
    Con Tryd.prog 4 [(agg [vp_e0, vp_e1, vp_e2, (str p_e.fReason), vp_e4, (str p_e.fBody), (int p_e.fRequested), (int p_e.fReceived)])] w0 H0 (fun H' v => v = (boo r)) := by
  refine Con.mk (N := 33) Tryd.func4 rfl rfl (by kernel_rfl) rfl ?_
  have S := St.start hw
  refine WP.seq ?_
  refine WP.region ?_
  refine W.box [vp_e0, vp_e1, vp_e2, (str p_e.fReason), vp_e4, (str p_e.fBody), (int p_e.fRequested), (int p_e.fReceived)] S rfl rfl ?_
  intro b1 w2 S
  refine WL.valw (R.as (v := (boo false)) rfl) ?_
  refine WL.nil ?_
  refine WP.seq ?_
  refine WP.region ?_
  refine WL.valw (R.fieldB rfl fld26_0) ?_
  refine WL.valw (R.loadB (i := 0) (v := vp_e0) S rfl rfl lay22 rfl) ?_
  obtain ⟨r3, hr3, h⟩ := bindE h
  refine W.call S rfl (keep_Keys_ok S.holds (hG.post S.post) p_e.fKeys Rp_e0 hr3) ?_
  rintro v4 w5 H6 hle7 S rfl
  have Rp_e0 := Sl.mono Rp_e0 hle7
  have Rp_e1 := Sl.mono Rp_e1 hle7
  have Rp_e2 := Sl.mono Rp_e2 hle7
  have Rp_e4 := Sl.mono Rp_e4 hle7
  refine WL.valw (R.mv (v := (boo r3)) rfl) ?_
  obtain ⟨b15, hg9, h⟩ := bindE h
  refine WL.grpw 4 [7, 8, 9] 10 (boo b15) (fun w => ∃ H' : Hp, H6.le H' ∧ St w0 H0 w H' [.box b1 26 [vp_e0, vp_e1, vp_e2, (str p_e.fReason), vp_e4, (str p_e.fBody), (int p_e.fRequested), (int p_e.fReceived)]]) ?_ ?_
  · rcases boolE r3 with hb8 | hb8
    · replace hg9 := condT hg9 hb8
      refine WL.gyes rfl rfl hb8 ?_
      refine WL.valw (R.fieldB rfl fld26_1) ?_
      refine WL.gyes rfl rfl hb8 ?_
      refine WL.valw (R.loadB (i := 0) (v := vp_e1) S rfl rfl lay23 rfl) ?_
      refine WL.gyes rfl rfl hb8 ?_
      obtain ⟨r10, hr10, hg9⟩ := bindE hg9
      refine W.call S rfl (keep_Strings_ok S.holds (hG.post S.post) p_e.fVary Rp_e1 hr10) ?_
      rintro v11 w12 H13 hle14 S rfl
      have Rp_e0 := Sl.mono Rp_e0 hle14
      have Rp_e1 := Sl.mono Rp_e1 hle14
      have Rp_e2 := Sl.mono Rp_e2 hle14
      have Rp_e4 := Sl.mono Rp_e4 hle14
      refine WL.valw (R.pickT rfl hb8 rfl) ?_
      exact WL.nil ⟨(congrArg boo (Option.some.inj hg9)), (by repeat (first | refine agree_upd rfl ?_ | refine agree_upds' rfl ?_ | exact agree_refl)), ⟨H13, hle14, S⟩⟩
    · replace hg9 := condF hg9 hb8
      refine WL.gno rfl rfl hb8 ?_
      refine WL.gno rfl rfl hb8 ?_
      refine WL.gno rfl rfl hb8 ?_
      refine WL.valw (R.pickF rfl hb8 rfl) ?_
      exact WL.nil ⟨(congrArg boo (Option.some.inj hg9)), (by repeat (first | refine agree_upd rfl ?_ | refine agree_upds' rfl ?_ | exact agree_refl)), ⟨H6, (Hp.le.refl _), S⟩⟩
  · intro us w17 ⟨H16, hle18, S⟩
    have Rp_e0 := Sl.mono Rp_e0 hle18
    have Rp_e1 := Sl.mono Rp_e1 hle18
    have Rp_e2 := Sl.mono Rp_e2 hle18
    have Rp_e4 := Sl.mono Rp_e4 hle18
    refine WL.valw (R.mv (v := (boo b15)) rfl) ?_
    obtain ⟨b26, hg20, h⟩ := bindE h
    refine WL.grpw 4 [12, 13, 14] 15 (boo b26) (fun w => ∃ H' : Hp, H16.le H' ∧ St w0 H0 w H' [.box b1 26 [vp_e0, vp_e1, vp_e2, (str p_e.fReason), vp_e4, (str p_e.fBody), (int p_e.fRequested), (int p_e.fReceived)]]) ?_ ?_
    · rcases boolE b15 with hb19 | hb19
      · replace hg20 := condT hg20 hb19
        refine WL.gyes rfl rfl hb19 ?_
        refine WL.valw (R.fieldB rfl fld26_2) ?_
        refine WL.gyes rfl rfl hb19 ?_
        refine WL.valw (R.loadB (i := 0) (v := vp_e2) S rfl rfl lay23 rfl) ?_
        refine WL.gyes rfl rfl hb19 ?_
        obtain ⟨r21, hr21, hg20⟩ := bindE hg20
        refine W.call S rfl (keep_Strings_ok S.holds (hG.post S.post) p_e.fSnapshot Rp_e2 hr21) ?_
        rintro v22 w23 H24 hle25 S rfl
        have Rp_e0 := Sl.mono Rp_e0 hle25
        have Rp_e1 := Sl.mono Rp_e1 hle25
        have Rp_e2 := Sl.mono Rp_e2 hle25
        have Rp_e4 := Sl.mono Rp_e4 hle25
        refine WL.valw (R.pickT rfl hb19 rfl) ?_
        exact WL.nil ⟨(congrArg boo (Option.some.inj hg20)), (by repeat (first | refine agree_upd rfl ?_ | refine agree_upds' rfl ?_ | exact agree_refl)), ⟨H24, hle25, S⟩⟩
      · replace hg20 := condF hg20 hb19
        refine WL.gno rfl rfl hb19 ?_
        refine WL.gno rfl rfl hb19 ?_
        refine WL.gno rfl rfl hb19 ?_
        refine WL.valw (R.pickF rfl hb19 rfl) ?_
        exact WL.nil ⟨(congrArg boo (Option.some.inj hg20)), (by repeat (first | refine agree_upd rfl ?_ | refine agree_upds' rfl ?_ | exact agree_refl)), ⟨H16, (Hp.le.refl _), S⟩⟩
    · intro us w28 ⟨H27, hle29, S⟩
      have Rp_e0 := Sl.mono Rp_e0 hle29
      have Rp_e1 := Sl.mono Rp_e1 hle29
      have Rp_e2 := Sl.mono Rp_e2 hle29
      have Rp_e4 := Sl.mono Rp_e4 hle29
      refine WL.valw (R.mv (v := (boo b26)) rfl) ?_
      refine WL.grp 5 [17, 18, 19, 20] 21 (boo (b26 && (decide ((p_e.fReason.length : Int) ≤ 100)))) ?_ ?_
      · rcases boolE b26 with hb30 | hb30
        · refine WL.gyes rfl rfl hb30 ?_
          refine WL.valw (R.fieldB rfl fld26_3) ?_
          refine WL.gyes rfl rfl hb30 ?_
          refine WL.valw (R.loadB (i := 0) (v := (str p_e.fReason)) S rfl rfl lay9 rfl) ?_
          refine WL.gyes rfl rfl hb30 ?_
          refine WL.valw (R.lenS (a := p_e.fReason) rfl Tryd.underlying9) ?_
          refine WL.gyes rfl rfl hb30 ?_
          refine WL.valw (R.leq rfl rfl) ?_
          refine WL.valw (R.pickT rfl hb30 rfl) ?_
          exact WL.nil ⟨(andT hb30), (by repeat (first | refine agree_upd rfl ?_ | refine agree_upds' rfl ?_ | exact agree_refl)), rfl⟩
        · refine WL.gno rfl rfl hb30 ?_
          refine WL.gno rfl rfl hb30 ?_
          refine WL.gno rfl rfl hb30 ?_
          refine WL.gno rfl rfl hb30 ?_
          refine WL.valw (R.pickF rfl hb30 rfl) ?_
          exact WL.nil ⟨(andF hb30), (by repeat (first | refine agree_upd rfl ?_ | refine agree_upds' rfl ?_ | exact agree_refl)), rfl⟩
      · intro us
        refine WL.valw (R.mv (v := (boo (b26 && (decide ((p_e.fReason.length : Int) ≤ 100))))) rfl) ?_
        refine WL.grp 5 [23, 24, 25, 26] 27 (boo ((b26 && (decide ((p_e.fReason.length : Int) ≤ 100))) && (decide ((p_e.fBody.length : Int) ≤ 2000)))) ?_ ?_
        · rcases boolE (b26 && (decide ((p_e.fReason.length : Int) ≤ 100))) with hb32 | hb32
          · refine WL.gyes rfl rfl hb32 ?_
            refine WL.valw (R.fieldB rfl fld26_5) ?_
            refine WL.gyes rfl rfl hb32 ?_
            refine WL.valw (R.loadB (i := 0) (v := (str p_e.fBody)) S rfl rfl lay9 rfl) ?_
            refine WL.gyes rfl rfl hb32 ?_
            refine WL.valw (R.lenS (a := p_e.fBody) rfl Tryd.underlying9) ?_
            refine WL.gyes rfl rfl hb32 ?_
            refine WL.valw (R.leq rfl rfl) ?_
            refine WL.valw (R.pickT rfl hb32 rfl) ?_
            exact WL.nil ⟨(andT hb32), (by repeat (first | refine agree_upd rfl ?_ | refine agree_upds' rfl ?_ | exact agree_refl)), rfl⟩
          · refine WL.gno rfl rfl hb32 ?_
            refine WL.gno rfl rfl hb32 ?_
            refine WL.gno rfl rfl hb32 ?_
            refine WL.gno rfl rfl hb32 ?_
            refine WL.valw (R.pickF rfl hb32 rfl) ?_
            exact WL.nil ⟨(andF hb32), (by repeat (first | refine agree_upd rfl ?_ | refine agree_upds' rfl ?_ | exact agree_refl)), rfl⟩
        · intro us
          refine WL.valw (R.mv (v := (boo ((b26 && (decide ((p_e.fReason.length : Int) ≤ 100))) && (decide ((p_e.fBody.length : Int) ≤ 2000))))) rfl) ?_
          obtain ⟨b41, hg35, h⟩ := bindE h
          refine WL.grpw 4 [29, 30, 31] 32 (boo b41) (fun w => ∃ H' : Hp, H27.le H' ∧ St w0 H0 w H' [.box b1 26 [vp_e0, vp_e1, vp_e2, (str p_e.fReason), vp_e4, (str p_e.fBody), (int p_e.fRequested), (int p_e.fReceived)]]) ?_ ?_
          · rcases boolE ((b26 && (decide ((p_e.fReason.length : Int) ≤ 100))) && (decide ((p_e.fBody.length : Int) ≤ 2000))) with hb34 | hb34
            · replace hg35 := condT hg35 hb34
              refine WL.gyes rfl rfl hb34 ?_
              refine WL.valw (R.fieldB rfl fld26_4) ?_
              refine WL.gyes rfl rfl hb34 ?_
              refine WL.valw (R.loadB (i := 0) (v := vp_e4) S rfl rfl lay24 rfl) ?_
              refine WL.gyes rfl rfl hb34 ?_
              obtain ⟨r36, hr36, hg35⟩ := bindE hg35
              refine W.call S rfl (keep_Fields_ok S.holds (hG.post S.post) p_e.fFields Rp_e4 hr36) ?_
              rintro v37 w38 H39 hle40 S rfl
              have Rp_e0 := Sl.mono Rp_e0 hle40
              have Rp_e1 := Sl.mono Rp_e1 hle40
              have Rp_e2 := Sl.mono Rp_e2 hle40
              have Rp_e4 := Sl.mono Rp_e4 hle40
              refine WL.valw (R.pickT rfl hb34 rfl) ?_
              exact WL.nil ⟨(congrArg boo (Option.some.inj hg35)), (by repeat (first | refine agree_upd rfl ?_ | refine agree_upds' rfl ?_ | exact agree_refl)), ⟨H39, hle40, S⟩⟩
            · replace hg35 := condF hg35 hb34
              refine WL.gno rfl rfl hb34 ?_
              refine WL.gno rfl rfl hb34 ?_
              refine WL.gno rfl rfl hb34 ?_
              refine WL.valw (R.pickF rfl hb34 rfl) ?_
              exact WL.nil ⟨(congrArg boo (Option.some.inj hg35)), (by repeat (first | refine agree_upd rfl ?_ | refine agree_upds' rfl ?_ | exact agree_refl)), ⟨H27, (Hp.le.refl _), S⟩⟩
          · intro us w43 ⟨H42, hle44, S⟩
            have Rp_e0 := Sl.mono Rp_e0 hle44
            have Rp_e1 := Sl.mono Rp_e1 hle44
            have Rp_e2 := Sl.mono Rp_e2 hle44
            have Rp_e4 := Sl.mono Rp_e4 hle44
            refine WL.valw (R.as (v := (boo b41)) rfl) ?_
            refine WL.nil ?_
            obtain rfl := Option.some.inj h
            refine WP.ret (Out.one rfl S rfl ?_)
            exact rfl
set_option maxRecDepth 10000 in
set_option maxHeartbeats 4000000 in
theorem entry_lengths_ok {w0 : World} {H0 : Hp} (hw : Holds w0 H0) (hG : Tryd.Gl w0) (p_l : (List Str)) {vp_l : Value} (Rp_l : Sl (α := Str) H0 vp_l p_l) {r : Int} (h : entry_lengths p_l = some r) :
    Con Tryd.prog 16 [vp_l] w0 H0 (fun H' v => v = (int r)) := by
  refine Con.mk (N := 19) Tryd.func16 rfl rfl (by kernel_rfl) rfl ?_
  have S := St.start hw
  refine WP.seq ?_
  refine WP.region ?_
  refine WL.valw (R.as (v := (int 0)) rfl) ?_
  refine WL.nil ?_
  refine WP.seq ?_
  refine WP.region ?_
  refine WL.valw (R.as (v := (int 0)) rfl) ?_
  refine WL.nil ?_
  refine WP.seq ?_
  refine WP.seq ?_
  refine WP.region ?_
  refine WL.valw (R.mv (v := vp_l) rfl) ?_
  refine WL.valw (R.lenL (α := Str) (xs := p_l) (H := H0) Rp_l rfl Tryd.underlying23) ?_
  refine WL.valw (R.mv (v := (int 0)) rfl) ?_
  refine WL.nil ?_
  obtain ⟨n_9, hr15, h⟩ := bindE h
  refine WP.cut (fun f w => ∃ (H8 : Hp), f 3 = (int n_9) ∧ St w0 H0 w H8 []) ?_ ?_
  · refine WP.block ?_
    refine WP.loopM (entry_lengths_L0 p_l) (fun s f w => match s with | (n_2, y_6) => ∃ (H1 : Hp), f 3 = (int n_2) ∧ f 6 = vp_l ∧ f 7 = (int (p_l.length : Int)) ∧ f 8 = (int y_6) ∧ Sl (α := Str) H1 vp_l p_l ∧ St w0 H0 w H1 []) (0, 0) n_9 hr15 ?_ ?_
    · exact ⟨H0, rfl, rfl, rfl, rfl, Rp_l, S⟩
    · intro s f w hI y11 hy12 hy13
      obtain ⟨n_2, y_6⟩ := s
      obtain ⟨H1, h3, h4, h5, h7, Rp_l, S⟩ := hI
      refine WP.seq ?_
      refine WP.region ?_
      refine WL.valw (R.lss h7 h5) ?_
      refine WL.nil ?_
      refine WP.seq ?_
      rcases condE hy12 with ⟨hc16, hy12⟩ | ⟨hc16, hy12⟩
      · refine WP.condT rfl hc16 ?_
        refine WP.skip ?_
        refine WP.seq ?_
        refine WP.block ?_
        refine WP.seq ?_
        refine WP.region ?_
        obtain ⟨x17, hx17, hy12⟩ := bindE hy12
        refine W.idx (α := Str) Rp_l h4 h7 el23 hx17 ?_
        rintro a18 _ hA19 rfl
        refine WL.valw (R.loadH (v := (str x17)) S rfl hA19 lay9 rfl) ?_
        refine WL.valw (R.as (v := (str x17)) rfl) ?_
        refine WL.nil ?_
        refine WP.region ?_
        refine WL.valw (R.mv (v := (int n_2)) h3) ?_
        refine WL.valw (R.mv (v := (str x17)) rfl) ?_
        refine WL.valw (R.lenS (a := x17) rfl Tryd.underlying9) ?_
        refine WL.valw (R.add rfl rfl) ?_
        refine WL.valw (R.add rfl rfl) ?_
        refine WL.valw (R.as (v := (int (wr (n_2 + (wr (4 + (x17.length : Int))))))) rfl) ?_
        refine WL.nil ?_
        refine WP.region ?_
        refine WL.valw (R.add h7 rfl) ?_
        refine WL.valw (R.mv (v := (int (wr (y_6 + 1)))) rfl) ?_
        refine WL.nil ?_
        obtain rfl := Option.some.inj hy12
        exact ⟨rfl, ⟨H1, rfl, h4, h5, rfl, Rp_l, S⟩⟩
      · refine WP.condF rfl hc16 ?_
        refine WP.exit ?_
        obtain rfl := Option.some.inj hy12
        obtain rfl := hy13
        exact ⟨H1, h3, S⟩
  · rintro f w ⟨H8, h10, S⟩
    refine WP.seq ?_
    refine WP.region ?_
    refine WL.valw (R.mv (v := (int n_9)) h10) ?_
    refine WL.valw (R.as (v := (int n_9)) rfl) ?_
    refine WL.nil ?_
    obtain rfl := Option.some.inj h
    refine WP.ret (Out.one rfl S rfl ?_)
    exact rfl
set_option maxRecDepth 10000 in
set_option maxHeartbeats 4000000 in
theorem entry_Size_ok {w0 : World} {H0 : Hp} (hw : Holds w0 H0) (hG : Tryd.Gl w0) (p_e : GEntry) {vp_e0 : Value} {vp_e1 : Value} {vp_e2 : Value} {vp_e4 : Value} (Rp_e0 : Sl (α := (List Str)) H0 vp_e0 p_e.fKeys) (Rp_e1 : Sl (α := Str) H0 vp_e1 p_e.fVary) (Rp_e2 : Sl (α := Str) H0 vp_e2 p_e.fSnapshot) (Rp_e4 : Sl (α := GField) H0 vp_e4 p_e.fFields) {r : Int} (h : entry_Size p_e = some r) :
    Con Tryd.prog 5 [(agg [vp_e0, vp_e1, vp_e2, (str p_e.fReason), vp_e4, (str p_e.fBody), (int p_e.fRequested), (int p_e.fReceived)])] w0 H0 (fun H' v => v = (int r)) := by
  refine Con.mk (N := 55) Tryd.func5 rfl rfl (by kernel_rfl) rfl ?_
  have S := St.start hw
  refine WP.seq ?_
  refine WP.region ?_
  refine W.box [vp_e0, vp_e1, vp_e2, (str p_e.fReason), vp_e4, (str p_e.fBody), (int p_e.fRequested), (int p_e.fReceived)] S rfl rfl ?_
  intro b1 w2 S
  refine WL.valw (R.as (v := (int 0)) rfl) ?_
  refine WL.nil ?_
  refine WP.seq ?_
  refine WP.quiet S (by kernel_rfl) (by kernel_rfl) ?_
  refine WQ.val (fun _ _ => (R.fieldB rfl fld26_3)) ?_
  refine WQ.val (fun w hw => by obtain ⟨_, hq, S⟩ := hw; exact (R.loadB (i := 0) (v := (str p_e.fReason)) S rfl rfl lay9 rfl)) ?_
  refine WQ.val (fun _ _ => (R.lenS (a := p_e.fReason) rfl Tryd.underlying9)) ?_
  refine WQ.val (fun _ _ => (R.add rfl rfl)) ?_
  refine WQ.val (fun _ _ => (R.fieldB rfl fld26_5)) ?_
  refine WQ.val (fun w hw => by obtain ⟨_, hq, S⟩ := hw; exact (R.loadB (i := 0) (v := (str p_e.fBody)) S rfl rfl lay9 rfl)) ?_
  refine WQ.val (fun _ _ => (R.lenS (a := p_e.fBody) rfl Tryd.underlying9)) ?_
  refine WQ.val (fun _ _ => (R.add rfl rfl)) ?_
  refine WQ.val (fun _ _ => (R.fieldB rfl fld26_1)) ?_
  refine WQ.val (fun w hw => by obtain ⟨_, hq, S⟩ := hw; exact (R.loadB (i := 0) (v := vp_e1) S rfl rfl lay23 rfl)) ?_
  obtain ⟨r6, hr6, h⟩ := bindE h
  refine WQ.call (v := (int r6)) rfl (fun w H' hq S => entry_lengths_ok S.holds (hG.post S.post) p_e.fVary (Sl.mono Rp_e1 hq) hr6) ?_
  refine WQ.val (fun _ _ => (R.add rfl rfl)) ?_
  refine WQ.val (fun _ _ => (R.fieldB rfl fld26_2)) ?_
  refine WQ.val (fun w hw => by obtain ⟨_, hq, S⟩ := hw; exact (R.loadB (i := 0) (v := vp_e2) S rfl rfl lay23 rfl)) ?_
  obtain ⟨r11, hr11, h⟩ := bindE h
  refine WQ.call (v := (int r11)) rfl (fun w H' hq S => entry_lengths_ok S.holds (hG.post S.post) p_e.fSnapshot (Sl.mono Rp_e2 hq) hr11) ?_
  refine WQ.val (fun _ _ => (R.add rfl rfl)) ?_
  refine WQ.val (fun _ _ => (R.as (v := (int (wr ((wr ((wr ((wr (100 + (p_e.fReason.length : Int))) + (p_e.fBody.length : Int))) + r6)) + r11)))) rfl)) ?_
  refine WQ.nil ?_
  intro w3 H4 hle5 S
  have Rp_e0 := Sl.mono Rp_e0 hle5
  have Rp_e1 := Sl.mono Rp_e1 hle5
  have Rp_e2 := Sl.mono Rp_e2 hle5
  have Rp_e4 := Sl.mono Rp_e4 hle5
  refine WP.seq ?_
  refine WP.seq ?_
  refine WP.region ?_
  refine WL.valw (R.fieldB rfl fld26_4) ?_
  refine WL.valw (R.loadB (i := 0) (v := vp_e4) S rfl rfl lay24 rfl) ?_
  refine WL.valw (R.lenL (α := GField) (xs := p_e.fFields) (H := H4) Rp_e4 rfl Tryd.underlying24) ?_
  refine WL.valw (R.mv (v := (int 0)) rfl) ?_
  refine WL.nil ?_
  obtain ⟨n_26, hr32, h⟩ := bindE h
  refine WP.cut (fun f w => ∃ (H24 : Hp), f 1 = (ptr b1 0) ∧ f 3 = (int n_26) ∧ Sl (α := (List Str)) H24 vp_e0 p_e.fKeys ∧ Sl (α := Str) H24 vp_e1 p_e.fVary ∧ Sl (α := Str) H24 vp_e2 p_e.fSnapshot ∧ Sl (α := GField) H24 vp_e4 p_e.fFields ∧ St w0 H0 w H24 [.box b1 26 [vp_e0, vp_e1, vp_e2, (str p_e.fReason), vp_e4, (str p_e.fBody), (int p_e.fRequested), (int p_e.fReceived)]]) ?_ ?_
  · refine WP.block ?_
    refine WP.loopM (entry_Size_L0 p_e) (fun s f w => match s with | (n_18, y_22) => ∃ (H16 : Hp), f 1 = (ptr b1 0) ∧ f 3 = (int n_18) ∧ f 25 = vp_e4 ∧ f 26 = (int (p_e.fFields.length : Int)) ∧ f 27 = (int y_22) ∧ Sl (α := GField) H16 vp_e4 p_e.fFields ∧ Sl (α := (List Str)) H16 vp_e0 p_e.fKeys ∧ Sl (α := Str) H16 vp_e1 p_e.fVary ∧ Sl (α := Str) H16 vp_e2 p_e.fSnapshot ∧ St w0 H0 w H16 [.box b1 26 [vp_e0, vp_e1, vp_e2, (str p_e.fReason), vp_e4, (str p_e.fBody), (int p_e.fRequested), (int p_e.fReceived)]]) (wr ((wr ((wr ((wr (100 + (p_e.fReason.length : Int))) + (p_e.fBody.length : Int))) + r6)) + r11), 0) n_26 hr32 ?_ ?_
    · exact ⟨H4, rfl, rfl, rfl, rfl, rfl, Rp_e4, Rp_e0, Rp_e1, Rp_e2, S⟩
    · intro s f w hI y28 hy29 hy30
      obtain ⟨n_18, y_22⟩ := s
      obtain ⟨H16, h17, h19, h20, h21, h23, Rp_e4, Rp_e0, Rp_e1, Rp_e2, S⟩ := hI
      refine WP.seq ?_
      refine WP.region ?_
      refine WL.valw (R.lss h23 h21) ?_
      refine WL.nil ?_
      refine WP.seq ?_
      rcases condE hy29 with ⟨hc33, hy29⟩ | ⟨hc33, hy29⟩
      · refine WP.condT rfl hc33 ?_
        refine WP.skip ?_
        refine WP.seq ?_
        refine WP.block ?_
        refine WP.seq ?_
        refine WP.region ?_
        obtain ⟨x34, hx34, hy29⟩ := bindE hy29
        refine W.idx (α := GField) Rp_e4 h20 h23 el24 hx34 ?_
        rintro a35 _ hA36 rfl
        refine WL.valw (R.loadHN (vs := [(str x34.fName), (str x34.fValue)]) S rfl hA36 lay39 rfl rfl) ?_
        refine W.alloc [(str []), (str [])] S zer39 ?_
        intro b37 w38 S
        refine W.store (i := 0) [(str x34.fName), (str x34.fValue)] S rfl rfl rfl lay39 rfl rfl (Nat.le_of_ble_eq_true rfl) rfl ?_
        intro w39 S
        refine WL.nil ?_
        refine WP.region ?_
        refine WL.valw (R.mv (v := (int n_18)) h19) ?_
        refine WL.valw (R.fieldB rfl fld39_0) ?_
        refine WL.valw (R.loadB (i := 0) (v := (str x34.fName)) S rfl rfl lay9 rfl) ?_
        refine WL.valw (R.lenS (a := x34.fName) rfl Tryd.underlying9) ?_
        refine WL.valw (R.add rfl rfl) ?_
        refine WL.valw (R.fieldB rfl fld39_1) ?_
        refine WL.valw (R.loadB (i := 0) (v := (str x34.fValue)) S rfl rfl lay9 rfl) ?_
        refine WL.valw (R.lenS (a := x34.fValue) rfl Tryd.underlying9) ?_
        refine WL.valw (R.add rfl rfl) ?_
        refine WL.valw (R.add rfl rfl) ?_
        refine WL.valw (R.as (v := (int (wr (n_18 + (wr ((wr (4 + (x34.fName.length : Int))) + (x34.fValue.length : Int))))))) rfl) ?_
        refine WL.nil ?_
        refine WP.region ?_
        refine WL.valw (R.add h23 rfl) ?_
        refine WL.valw (R.mv (v := (int (wr (y_22 + 1)))) rfl) ?_
        refine WL.nil ?_
        obtain rfl := Option.some.inj hy29
        exact ⟨rfl, ⟨H16, h17, rfl, h20, h21, rfl, Rp_e4, Rp_e0, Rp_e1, Rp_e2, (S.drop _ (.cons _ (.cons_cons _ .slnil)))⟩⟩
      · refine WP.condF rfl hc33 ?_
        refine WP.exit ?_
        obtain rfl := Option.some.inj hy29
        obtain rfl := hy30
        exact ⟨H16, h17, h19, Rp_e0, Rp_e1, Rp_e2, Rp_e4, S⟩
  · rintro f w ⟨H24, h25, h27, Rp_e0, Rp_e1, Rp_e2, Rp_e4, S⟩
    refine WP.seq ?_
    refine WP.seq ?_
    refine WP.region ?_
    refine WL.valw (R.fieldB h25 fld26_0) ?_
    refine WL.valw (R.loadB (i := 0) (v := vp_e0) S rfl rfl lay22 rfl) ?_
    refine WL.valw (R.lenL (α := (List Str)) (xs := p_e.fKeys) (H := H24) Rp_e0 rfl Tryd.underlying22) ?_
    refine WL.valw (R.mv (v := (int 0)) rfl) ?_
    refine WL.nil ?_
    obtain ⟨n_48, hr54, h⟩ := bindE h
    refine WP.cut (fun f w => ∃ (H47 : Hp), f 3 = (int n_48) ∧ St w0 H0 w H47 []) ?_ ?_
    · refine WP.block ?_
      refine WP.loopM (entry_Size_L1 p_e) (fun s f w => match s with | (n_41, y_45) => ∃ (H40 : Hp), f 3 = (int n_41) ∧ f 43 = vp_e0 ∧ f 44 = (int (p_e.fKeys.length : Int)) ∧ f 45 = (int y_45) ∧ Sl (α := (List Str)) H40 vp_e0 p_e.fKeys ∧ St w0 H0 w H40 []) (n_26, 0) n_48 hr54 ?_ ?_
      · exact ⟨H24, h27, rfl, rfl, rfl, Rp_e0, (S.drop _ (.cons _ .slnil))⟩
      · intro s f w hI y50 hy51 hy52
        obtain ⟨n_41, y_45⟩ := s
        obtain ⟨H40, h42, h43, h44, h46, Rp_e0, S⟩ := hI
        refine WP.seq ?_
        refine WP.region ?_
        refine WL.valw (R.lss h46 h44) ?_
        refine WL.nil ?_
        refine WP.seq ?_
        rcases condE hy51 with ⟨hc55, hy51⟩ | ⟨hc55, hy51⟩
        · refine WP.condT rfl hc55 ?_
          refine WP.skip ?_
          refine WP.seq ?_
          refine WP.block ?_
          refine WP.seq ?_
          refine WP.region ?_
          obtain ⟨x56, hx56, hy51⟩ := bindE hy51
          refine W.idx (α := (List Str)) Rp_e0 h43 h46 el22 hx56 ?_
          rintro a57 _ hA58 ⟨v59, rfl, R60⟩
          refine WL.valw (R.loadH (v := v59) S rfl hA58 lay23 rfl) ?_
          refine WL.valw (R.as (v := v59) rfl) ?_
          refine WL.nil ?_
          refine WP.region ?_
          refine WL.valw (R.mv (v := (int n_41)) h42) ?_
          refine WL.valw (R.mv (v := v59) rfl) ?_
          obtain ⟨r61, hr61, hy51⟩ := bindE hy51
          refine W.call S rfl (entry_lengths_ok S.holds (hG.post S.post) x56 R60 hr61) ?_
          rintro v62 w63 H64 hle65 S rfl
          have Rp_e0 := Sl.mono Rp_e0 hle65
          have hA58 := At.mono hA58 hle65 (by simp)
          have R60 := Sl.mono R60 hle65
          refine WL.valw (R.add rfl rfl) ?_
          refine WL.valw (R.as (v := (int (wr (n_41 + r61)))) rfl) ?_
          refine WL.nil ?_
          refine WP.region ?_
          refine WL.valw (R.add h46 rfl) ?_
          refine WL.valw (R.mv (v := (int (wr (y_45 + 1)))) rfl) ?_
          refine WL.nil ?_
          obtain rfl := Option.some.inj hy51
          exact ⟨rfl, ⟨H64, rfl, h43, h44, rfl, Rp_e0, S⟩⟩
        · refine WP.condF rfl hc55 ?_
          refine WP.exit ?_
          obtain rfl := Option.some.inj hy51
          obtain rfl := hy52
          exact ⟨H40, h42, S⟩
    · rintro f w ⟨H47, h49, S⟩
      refine WP.seq ?_
      refine WP.region ?_
      refine WL.valw (R.mv (v := (int n_48)) h49) ?_
      refine WL.valw (R.as (v := (int n_48)) rfl) ?_
      refine WL.nil ?_
      obtain rfl := Option.some.inj h
      refine WP.ret (Out.one rfl S rfl ?_)
      exact rfl
set_option maxRecDepth 10000 in
set_option maxHeartbeats 4000000 in
theorem ref26_Size_ok {w0 : World} {H0 : Hp} (hw : Holds w0 H0) (hG : Tryd.Gl w0) (p_ppend : GEntry) {vp_ppend0 : Value} {vp_ppend1 : Value} {vp_ppend2 : Value} {vp_ppend4 : Value} (Rp_ppend0 : Sl (α := (List Str)) H0 vp_ppend0 p_ppend.fKeys) (Rp_ppend1 : Sl (α := Str) H0 vp_ppend1 p_ppend.fVary) (Rp_ppend2 : Sl (α := Str) H0 vp_ppend2 p_ppend.fSnapshot) (Rp_ppend4 : Sl (α := GField) H0 vp_ppend4 p_ppend.fFields) {r : Int} (h : ref26_Size p_ppend = some r) :
    Con Tryd.prog 6 [(agg [vp_ppend0, vp_ppend1, vp_ppend2, (str p_ppend.fReason), vp_ppend4, (str p_ppend.fBody), (int p_ppend.fRequested), (int p_ppend.fReceived)])] w0 H0 (fun H' v => v = (int r)) := by
  refine Con.mk (N := 104) Tryd.func6 rfl rfl (by kernel_rfl) rfl ?_
  have S := St.start hw
  refine WP.seq ?_
  refine WP.region ?_
  refine W.box [vp_ppend0, vp_ppend1, vp_ppend2, (str p_ppend.fReason), vp_ppend4, (str p_ppend.fBody), (int p_ppend.fRequested), (int p_ppend.fReceived)] S rfl rfl ?_
  intro b1 w2 S
  refine WL.valw (R.as (v := (int 0)) rfl) ?_
  refine WL.nil ?_
  refine WP.seq ?_
  refine WP.region ?_
  refine WL.valw (R.fieldB rfl fld26_3) ?_
  refine WL.valw (R.loadB (i := 0) (v := (str p_ppend.fReason)) S rfl rfl lay9 rfl) ?_
  refine WL.valw (R.lenS (a := p_ppend.fReason) rfl Tryd.underlying9) ?_
  refine WL.valw (R.add rfl rfl) ?_
  refine WL.valw (R.fieldB rfl fld26_5) ?_
  refine WL.valw (R.loadB (i := 0) (v := (str p_ppend.fBody)) S rfl rfl lay9 rfl) ?_
  refine WL.valw (R.lenS (a := p_ppend.fBody) rfl Tryd.underlying9) ?_
  refine WL.valw (R.add rfl rfl) ?_
  refine WL.valw (R.as (v := (int (wr ((wr (100 + (p_ppend.fReason.length : Int))) + (p_ppend.fBody.length : Int))))) rfl) ?_
  refine WL.nil ?_
  refine WP.seq ?_
  refine WP.seq ?_
  refine WP.region ?_
  refine WL.valw (R.as (v := (int 0)) rfl) ?_
  refine WL.nil ?_
  obtain ⟨y_11, hr17, h⟩ := bindE h
  refine WP.cut (fun f w => ∃ (H9 : Hp), f 1 = (ptr b1 0) ∧ f 3 = (int y_11) ∧ Sl (α := (List Str)) H9 vp_ppend0 p_ppend.fKeys ∧ Sl (α := Str) H9 vp_ppend1 p_ppend.fVary ∧ Sl (α := Str) H9 vp_ppend2 p_ppend.fSnapshot ∧ Sl (α := GField) H9 vp_ppend4 p_ppend.fFields ∧ St w0 H0 w H9 [.box b1 26 [vp_ppend0, vp_ppend1, vp_ppend2, (str p_ppend.fReason), vp_ppend4, (str p_ppend.fBody), (int p_ppend.fRequested), (int p_ppend.fReceived)]]) ?_ ?_
  · refine WP.block ?_
    refine WP.loopM (ref26_Size_L0 p_ppend) (fun s f w => match s with | (y_5, y_7) => ∃ (H3 : Hp), f 1 = (ptr b1 0) ∧ f 3 = (int y_5) ∧ f 4 = (int y_7) ∧ Sl (α := (List Str)) H3 vp_ppend0 p_ppend.fKeys ∧ Sl (α := Str) H3 vp_ppend1 p_ppend.fVary ∧ Sl (α := Str) H3 vp_ppend2 p_ppend.fSnapshot ∧ Sl (α := GField) H3 vp_ppend4 p_ppend.fFields ∧ St w0 H0 w H3 [.box b1 26 [vp_ppend0, vp_ppend1, vp_ppend2, (str p_ppend.fReason), vp_ppend4, (str p_ppend.fBody), (int p_ppend.fRequested), (int p_ppend.fReceived)]]) (wr ((wr (100 + (p_ppend.fReason.length : Int))) + (p_ppend.fBody.length : Int)), 0) y_11 hr17 ?_ ?_
    · exact ⟨H0, rfl, rfl, rfl, Rp_ppend0, Rp_ppend1, Rp_ppend2, Rp_ppend4, S⟩
    · intro s f w hI y13 hy14 hy15
      obtain ⟨y_5, y_7⟩ := s
      obtain ⟨H3, h4, h6, h8, Rp_ppend0, Rp_ppend1, Rp_ppend2, Rp_ppend4, S⟩ := hI
      refine WP.seq ?_
      refine WP.seq ?_
      refine WP.region ?_
      refine WL.valw (R.mv (v := (int y_7)) h8) ?_
      refine WL.valw (R.fieldB h4 fld26_4) ?_
      refine WL.valw (R.loadB (i := 0) (v := vp_ppend4) S rfl rfl lay24 rfl) ?_
      refine WL.valw (R.lenL (α := GField) (xs := p_ppend.fFields) (H := H3) Rp_ppend4 rfl Tryd.underlying24) ?_
      refine WL.valw (R.lss rfl rfl) ?_
      refine WL.nil ?_
      rcases condE hy14 with ⟨hc18, hy14⟩ | ⟨hc18, hy14⟩
      · refine WP.condT rfl hc18 ?_
        refine WP.skip ?_
        refine WP.seq ?_
        refine WP.block ?_
        refine WP.quiet S (by kernel_rfl) (by kernel_rfl) ?_
        refine WQ.val (fun _ _ => (R.mv (v := (int y_5)) h6)) ?_
        refine WQ.val (fun _ _ => (R.fieldB h4 fld26_4)) ?_
        refine WQ.val (fun w hw => by obtain ⟨_, hq, S⟩ := hw; exact (R.loadB (i := 0) (v := vp_ppend4) S rfl rfl lay24 rfl)) ?_
        refine WQ.val (fun _ _ => (R.mv (v := (int y_7)) h8)) ?_
        obtain ⟨x22, hx22, hy14⟩ := bindE hy14
        refine WQ.idx (α := GField) Rp_ppend4 rfl rfl el24 hx22 ?_
        rintro a23 _ hA24 rfl
        refine WQ.val (fun _ _ => (R.field rfl fld39_0)) ?_
        have hA25 := At.add hA24 0 (by simp)
        refine WQ.val (fun w hw => by obtain ⟨_, hq, S⟩ := hw; exact (R.loadH (v := (str x22.fName)) S rfl (At.mono hA25 hq (by simp)) lay9 rfl)) ?_
        refine WQ.val (fun _ _ => (R.lenS (a := x22.fName) rfl Tryd.underlying9)) ?_
        refine WQ.val (fun _ _ => (R.add rfl rfl)) ?_
        refine WQ.val (fun _ _ => (R.fieldB h4 fld26_4)) ?_
        refine WQ.val (fun w hw => by obtain ⟨_, hq, S⟩ := hw; exact (R.loadB (i := 0) (v := vp_ppend4) S rfl rfl lay24 rfl)) ?_
        refine WQ.val (fun _ _ => (R.mv (v := (int y_7)) h8)) ?_
        obtain ⟨x26, hx26, hy14⟩ := bindE hy14
        refine WQ.idx (α := GField) Rp_ppend4 rfl rfl el24 hx26 ?_
        rintro a27 _ hA28 rfl
        refine WQ.val (fun _ _ => (R.field rfl fld39_1)) ?_
        have hA29 := At.add hA28 1 (by simp)
        refine WQ.val (fun w hw => by obtain ⟨_, hq, S⟩ := hw; exact (R.loadH (v := (str x26.fValue)) S rfl (At.mono hA29 hq (by simp)) lay9 rfl)) ?_
        refine WQ.val (fun _ _ => (R.lenS (a := x26.fValue) rfl Tryd.underlying9)) ?_
        refine WQ.val (fun _ _ => (R.add rfl rfl)) ?_
        refine WQ.val (fun _ _ => (R.add rfl rfl)) ?_
        refine WQ.val (fun _ _ => (R.as (v := (int (wr (y_5 + (wr ((wr (4 + (x22.fName.length : Int))) + (x26.fValue.length : Int))))))) rfl)) ?_
        refine WQ.nil ?_
        intro w19 H20 hle21 S
        have Rp_ppend4 := Sl.mono Rp_ppend4 hle21
        have hA24 := At.mono hA24 hle21 (by simp)
        have hA25 := At.mono hA25 hle21 (by simp)
        have hA28 := At.mono hA28 hle21 (by simp)
        have hA29 := At.mono hA29 hle21 (by simp)
        have Rp_ppend0 := Sl.mono Rp_ppend0 hle21
        have Rp_ppend1 := Sl.mono Rp_ppend1 hle21
        have Rp_ppend2 := Sl.mono Rp_ppend2 hle21
        refine WP.region ?_
        refine WL.valw (R.mv (v := (int y_7)) h8) ?_
        refine WL.valw (R.add rfl rfl) ?_
        refine WL.valw (R.as (v := (int (wr (y_7 + 1)))) rfl) ?_
        refine WL.nil ?_
        obtain rfl := Option.some.inj hy14
        exact ⟨rfl, ⟨H20, h4, rfl, rfl, Rp_ppend0, Rp_ppend1, Rp_ppend2, Rp_ppend4, S⟩⟩
      · refine WP.condF rfl hc18 ?_
        refine WP.exit ?_
        obtain rfl := Option.some.inj hy14
        obtain rfl := hy15
        exact ⟨H3, h4, h6, Rp_ppend0, Rp_ppend1, Rp_ppend2, Rp_ppend4, S⟩
  · rintro f w ⟨H9, h10, h12, Rp_ppend0, Rp_ppend1, Rp_ppend2, Rp_ppend4, S⟩
    refine WP.seq ?_
    refine WP.seq ?_
    refine WP.region ?_
    refine WL.valw (R.as (v := (int 0)) rfl) ?_
    refine WL.nil ?_
    obtain ⟨y_38, hr44, h⟩ := bindE h
    refine WP.cut (fun f w => ∃ (H36 : Hp), f 1 = (ptr b1 0) ∧ f 3 = (int y_38) ∧ Sl (α := (List Str)) H36 vp_ppend0 p_ppend.fKeys ∧ Sl (α := Str) H36 vp_ppend1 p_ppend.fVary ∧ Sl (α := Str) H36 vp_ppend2 p_ppend.fSnapshot ∧ Sl (α := GField) H36 vp_ppend4 p_ppend.fFields ∧ St w0 H0 w H36 [.box b1 26 [vp_ppend0, vp_ppend1, vp_ppend2, (str p_ppend.fReason), vp_ppend4, (str p_ppend.fBody), (int p_ppend.fRequested), (int p_ppend.fReceived)]]) ?_ ?_
    · refine WP.block ?_
      refine WP.loopM (ref26_Size_L2 p_ppend) (fun s f w => match s with | (y_32, y_34) => ∃ (H30 : Hp), f 1 = (ptr b1 0) ∧ f 3 = (int y_32) ∧ f 5 = (int y_34) ∧ Sl (α := (List Str)) H30 vp_ppend0 p_ppend.fKeys ∧ Sl (α := Str) H30 vp_ppend1 p_ppend.fVary ∧ Sl (α := Str) H30 vp_ppend2 p_ppend.fSnapshot ∧ Sl (α := GField) H30 vp_ppend4 p_ppend.fFields ∧ St w0 H0 w H30 [.box b1 26 [vp_ppend0, vp_ppend1, vp_ppend2, (str p_ppend.fReason), vp_ppend4, (str p_ppend.fBody), (int p_ppend.fRequested), (int p_ppend.fReceived)]]) (y_11, 0) y_38 hr44 ?_ ?_
      · exact ⟨H9, h10, h12, rfl, Rp_ppend0, Rp_ppend1, Rp_ppend2, Rp_ppend4, S⟩
      · intro s f w hI y40 hy41 hy42
        obtain ⟨y_32, y_34⟩ := s
        obtain ⟨H30, h31, h33, h35, Rp_ppend0, Rp_ppend1, Rp_ppend2, Rp_ppend4, S⟩ := hI
        refine WP.seq ?_
        refine WP.seq ?_
        refine WP.region ?_
        refine WL.valw (R.mv (v := (int y_34)) h35) ?_
        refine WL.valw (R.fieldB h31 fld26_0) ?_
        refine WL.valw (R.loadB (i := 0) (v := vp_ppend0) S rfl rfl lay22 rfl) ?_
        refine WL.valw (R.lenL (α := (List Str)) (xs := p_ppend.fKeys) (H := H30) Rp_ppend0 rfl Tryd.underlying22) ?_
        refine WL.valw (R.lss rfl rfl) ?_
        refine WL.nil ?_
        rcases condE hy41 with ⟨hc45, hy41⟩ | ⟨hc45, hy41⟩
        · refine WP.condT rfl hc45 ?_
          refine WP.skip ?_
          refine WP.seq ?_
          refine WP.block ?_
          refine WP.seq ?_
          refine WP.region ?_
          refine WL.valw (R.as (v := (int 0)) rfl) ?_
          refine WL.nil ?_
          obtain ⟨y_55, hr62, hy41⟩ := bindE hy41
          refine WP.cut (fun f w => ∃ (H53 : Hp), f 1 = (ptr b1 0) ∧ f 3 = (int y_55) ∧ f 5 = (int y_34) ∧ Sl (α := (List Str)) H53 vp_ppend0 p_ppend.fKeys ∧ Sl (α := Str) H53 vp_ppend1 p_ppend.fVary ∧ Sl (α := Str) H53 vp_ppend2 p_ppend.fSnapshot ∧ Sl (α := GField) H53 vp_ppend4 p_ppend.fFields ∧ St w0 H0 w H53 [.box b1 26 [vp_ppend0, vp_ppend1, vp_ppend2, (str p_ppend.fReason), vp_ppend4, (str p_ppend.fBody), (int p_ppend.fRequested), (int p_ppend.fReceived)]]) ?_ ?_
          · refine WP.block ?_
            refine WP.loopM (ref26_Size_L1 p_ppend y_34) (fun s f w => match s with | (y_48, y_51) => ∃ (H46 : Hp), f 1 = (ptr b1 0) ∧ f 3 = (int y_48) ∧ f 5 = (int y_34) ∧ f 6 = (int y_51) ∧ Sl (α := (List Str)) H46 vp_ppend0 p_ppend.fKeys ∧ Sl (α := Str) H46 vp_ppend1 p_ppend.fVary ∧ Sl (α := Str) H46 vp_ppend2 p_ppend.fSnapshot ∧ Sl (α := GField) H46 vp_ppend4 p_ppend.fFields ∧ St w0 H0 w H46 [.box b1 26 [vp_ppend0, vp_ppend1, vp_ppend2, (str p_ppend.fReason), vp_ppend4, (str p_ppend.fBody), (int p_ppend.fRequested), (int p_ppend.fReceived)]]) (y_32, 0) y_55 hr62 ?_ ?_
            · exact ⟨H30, h31, h33, h35, rfl, Rp_ppend0, Rp_ppend1, Rp_ppend2, Rp_ppend4, S⟩
            · intro s f w hI y58 hy59 hy60
              obtain ⟨y_48, y_51⟩ := s
              obtain ⟨H46, h47, h49, h50, h52, Rp_ppend0, Rp_ppend1, Rp_ppend2, Rp_ppend4, S⟩ := hI
              refine WP.seq ?_
              refine WP.seq ?_
              refine WP.region ?_
              refine WL.valw (R.mv (v := (int y_51)) h52) ?_
              refine WL.valw (R.fieldB h47 fld26_0) ?_
              refine WL.valw (R.loadB (i := 0) (v := vp_ppend0) S rfl rfl lay22 rfl) ?_
              refine WL.valw (R.mv (v := (int y_34)) h50) ?_
              obtain ⟨x63, hx63, hy59⟩ := bindE hy59
              refine W.idx (α := (List Str)) Rp_ppend0 rfl rfl el22 hx63 ?_
              rintro a64 _ hA65 ⟨v66, rfl, R67⟩
              refine WL.valw (R.loadH (v := v66) S rfl hA65 lay23 rfl) ?_
              refine WL.valw (R.lenL (α := Str) (xs := x63) (H := H46) R67 rfl Tryd.underlying23) ?_
              refine WL.valw (R.lss rfl rfl) ?_
              refine WL.nil ?_
              rcases condE hy59 with ⟨hc68, hy59⟩ | ⟨hc68, hy59⟩
              · refine WP.condT rfl hc68 ?_
                refine WP.skip ?_
                refine WP.seq ?_
                refine WP.block ?_
                refine WP.region ?_
                refine WL.valw (R.mv (v := (int y_48)) h49) ?_
                refine WL.valw (R.fieldB h47 fld26_0) ?_
                refine WL.valw (R.loadB (i := 0) (v := vp_ppend0) S rfl rfl lay22 rfl) ?_
                refine WL.valw (R.mv (v := (int y_34)) h50) ?_
                obtain ⟨x69, hx69, hy59⟩ := bindE hy59
                refine W.idx (α := (List Str)) Rp_ppend0 rfl rfl el22 hx69 ?_
                rintro a70 _ hA71 ⟨v72, rfl, R73⟩
                refine WL.valw (R.loadH (v := v72) S rfl hA71 lay23 rfl) ?_
                refine WL.valw (R.mv (v := (int y_51)) h52) ?_
                obtain ⟨x74, hx74, hy59⟩ := bindE hy59
                refine W.idx (α := Str) R73 rfl rfl el23 hx74 ?_
                rintro a75 _ hA76 rfl
                refine WL.valw (R.loadH (v := (str x74)) S rfl hA76 lay9 rfl) ?_
                refine WL.valw (R.lenS (a := x74) rfl Tryd.underlying9) ?_
                refine WL.valw (R.add rfl rfl) ?_
                refine WL.valw (R.add rfl rfl) ?_
                refine WL.valw (R.as (v := (int (wr (y_48 + (wr (4 + (x74.length : Int))))))) rfl) ?_
                refine WL.nil ?_
                refine WP.region ?_
                refine WL.valw (R.mv (v := (int y_51)) h52) ?_
                refine WL.valw (R.add rfl rfl) ?_
                refine WL.valw (R.as (v := (int (wr (y_51 + 1)))) rfl) ?_
                refine WL.nil ?_
                obtain rfl := Option.some.inj hy59
                exact ⟨rfl, ⟨H46, h47, rfl, h50, rfl, Rp_ppend0, Rp_ppend1, Rp_ppend2, Rp_ppend4, S⟩⟩
              · refine WP.condF rfl hc68 ?_
                refine WP.exit ?_
                obtain rfl := Option.some.inj hy59
                obtain rfl := hy60
                exact ⟨H46, h47, h49, h50, Rp_ppend0, Rp_ppend1, Rp_ppend2, Rp_ppend4, S⟩
          · rintro f w ⟨H53, h54, h56, h57, Rp_ppend0, Rp_ppend1, Rp_ppend2, Rp_ppend4, S⟩
            refine WP.region ?_
            refine WL.valw (R.mv (v := (int y_34)) h57) ?_
            refine WL.valw (R.add rfl rfl) ?_
            refine WL.valw (R.as (v := (int (wr (y_34 + 1)))) rfl) ?_
            refine WL.nil ?_
            obtain rfl := Option.some.inj hy41
            exact ⟨rfl, ⟨H53, h54, h56, rfl, Rp_ppend0, Rp_ppend1, Rp_ppend2, Rp_ppend4, S⟩⟩
        · refine WP.condF rfl hc45 ?_
          refine WP.exit ?_
          obtain rfl := Option.some.inj hy41
          obtain rfl := hy42
          exact ⟨H30, h31, h33, Rp_ppend0, Rp_ppend1, Rp_ppend2, Rp_ppend4, S⟩
    · rintro f w ⟨H36, h37, h39, Rp_ppend0, Rp_ppend1, Rp_ppend2, Rp_ppend4, S⟩
      refine WP.seq ?_
      refine WP.seq ?_
      refine WP.region ?_
      refine WL.valw (R.as (v := (int 0)) rfl) ?_
      refine WL.nil ?_
      obtain ⟨y_85, hr91, h⟩ := bindE h
      refine WP.cut (fun f w => ∃ (H83 : Hp), f 1 = (ptr b1 0) ∧ f 3 = (int y_85) ∧ Sl (α := (List Str)) H83 vp_ppend0 p_ppend.fKeys ∧ Sl (α := Str) H83 vp_ppend1 p_ppend.fVary ∧ Sl (α := Str) H83 vp_ppend2 p_ppend.fSnapshot ∧ Sl (α := GField) H83 vp_ppend4 p_ppend.fFields ∧ St w0 H0 w H83 [.box b1 26 [vp_ppend0, vp_ppend1, vp_ppend2, (str p_ppend.fReason), vp_ppend4, (str p_ppend.fBody), (int p_ppend.fRequested), (int p_ppend.fReceived)]]) ?_ ?_
      · refine WP.block ?_
        refine WP.loopM (ref26_Size_L3 p_ppend) (fun s f w => match s with | (y_79, y_81) => ∃ (H77 : Hp), f 1 = (ptr b1 0) ∧ f 3 = (int y_79) ∧ f 7 = (int y_81) ∧ Sl (α := (List Str)) H77 vp_ppend0 p_ppend.fKeys ∧ Sl (α := Str) H77 vp_ppend1 p_ppend.fVary ∧ Sl (α := Str) H77 vp_ppend2 p_ppend.fSnapshot ∧ Sl (α := GField) H77 vp_ppend4 p_ppend.fFields ∧ St w0 H0 w H77 [.box b1 26 [vp_ppend0, vp_ppend1, vp_ppend2, (str p_ppend.fReason), vp_ppend4, (str p_ppend.fBody), (int p_ppend.fRequested), (int p_ppend.fReceived)]]) (y_38, 0) y_85 hr91 ?_ ?_
        · exact ⟨H36, h37, h39, rfl, Rp_ppend0, Rp_ppend1, Rp_ppend2, Rp_ppend4, S⟩
        · intro s f w hI y87 hy88 hy89
          obtain ⟨y_79, y_81⟩ := s
          obtain ⟨H77, h78, h80, h82, Rp_ppend0, Rp_ppend1, Rp_ppend2, Rp_ppend4, S⟩ := hI
          refine WP.seq ?_
          refine WP.seq ?_
          refine WP.region ?_
          refine WL.valw (R.mv (v := (int y_81)) h82) ?_
          refine WL.valw (R.fieldB h78 fld26_1) ?_
          refine WL.valw (R.loadB (i := 0) (v := vp_ppend1) S rfl rfl lay23 rfl) ?_
          refine WL.valw (R.lenL (α := Str) (xs := p_ppend.fVary) (H := H77) Rp_ppend1 rfl Tryd.underlying23) ?_
          refine WL.valw (R.lss rfl rfl) ?_
          refine WL.nil ?_
          rcases condE hy88 with ⟨hc92, hy88⟩ | ⟨hc92, hy88⟩
          · refine WP.condT rfl hc92 ?_
            refine WP.skip ?_
            refine WP.seq ?_
            refine WP.block ?_
            refine WP.region ?_
            refine WL.valw (R.mv (v := (int y_79)) h80) ?_
            refine WL.valw (R.fieldB h78 fld26_1) ?_
            refine WL.valw (R.loadB (i := 0) (v := vp_ppend1) S rfl rfl lay23 rfl) ?_
            refine WL.valw (R.mv (v := (int y_81)) h82) ?_
            obtain ⟨x93, hx93, hy88⟩ := bindE hy88
            refine W.idx (α := Str) Rp_ppend1 rfl rfl el23 hx93 ?_
            rintro a94 _ hA95 rfl
            refine WL.valw (R.loadH (v := (str x93)) S rfl hA95 lay9 rfl) ?_
            refine WL.valw (R.lenS (a := x93) rfl Tryd.underlying9) ?_
            refine WL.valw (R.add rfl rfl) ?_
            refine WL.valw (R.add rfl rfl) ?_
            refine WL.valw (R.as (v := (int (wr (y_79 + (wr (4 + (x93.length : Int))))))) rfl) ?_
            refine WL.nil ?_
            refine WP.region ?_
            refine WL.valw (R.mv (v := (int y_81)) h82) ?_
            refine WL.valw (R.add rfl rfl) ?_
            refine WL.valw (R.as (v := (int (wr (y_81 + 1)))) rfl) ?_
            refine WL.nil ?_
            obtain rfl := Option.some.inj hy88
            exact ⟨rfl, ⟨H77, h78, rfl, rfl, Rp_ppend0, Rp_ppend1, Rp_ppend2, Rp_ppend4, S⟩⟩
          · refine WP.condF rfl hc92 ?_
            refine WP.exit ?_
            obtain rfl := Option.some.inj hy88
            obtain rfl := hy89
            exact ⟨H77, h78, h80, Rp_ppend0, Rp_ppend1, Rp_ppend2, Rp_ppend4, S⟩
      · rintro f w ⟨H83, h84, h86, Rp_ppend0, Rp_ppend1, Rp_ppend2, Rp_ppend4, S⟩
        refine WP.seq ?_
        refine WP.seq ?_
        refine WP.region ?_
        refine WL.valw (R.as (v := (int 0)) rfl) ?_
        refine WL.nil ?_
        obtain ⟨y_103, hr109, h⟩ := bindE h
        refine WP.cut (fun f w => ∃ (H102 : Hp), f 3 = (int y_103) ∧ St w0 H0 w H102 []) ?_ ?_
        · refine WP.block ?_
          refine WP.loopM (ref26_Size_L4 p_ppend) (fun s f w => match s with | (y_98, y_100) => ∃ (H96 : Hp), f 1 = (ptr b1 0) ∧ f 3 = (int y_98) ∧ f 8 = (int y_100) ∧ Sl (α := (List Str)) H96 vp_ppend0 p_ppend.fKeys ∧ Sl (α := Str) H96 vp_ppend1 p_ppend.fVary ∧ Sl (α := Str) H96 vp_ppend2 p_ppend.fSnapshot ∧ Sl (α := GField) H96 vp_ppend4 p_ppend.fFields ∧ St w0 H0 w H96 [.box b1 26 [vp_ppend0, vp_ppend1, vp_ppend2, (str p_ppend.fReason), vp_ppend4, (str p_ppend.fBody), (int p_ppend.fRequested), (int p_ppend.fReceived)]]) (y_85, 0) y_103 hr109 ?_ ?_
          · exact ⟨H83, h84, h86, rfl, Rp_ppend0, Rp_ppend1, Rp_ppend2, Rp_ppend4, S⟩
          · intro s f w hI y105 hy106 hy107
            obtain ⟨y_98, y_100⟩ := s
            obtain ⟨H96, h97, h99, h101, Rp_ppend0, Rp_ppend1, Rp_ppend2, Rp_ppend4, S⟩ := hI
            refine WP.seq ?_
            refine WP.seq ?_
            refine WP.region ?_
            refine WL.valw (R.mv (v := (int y_100)) h101) ?_
            refine WL.valw (R.fieldB h97 fld26_2) ?_
            refine WL.valw (R.loadB (i := 0) (v := vp_ppend2) S rfl rfl lay23 rfl) ?_
            refine WL.valw (R.lenL (α := Str) (xs := p_ppend.fSnapshot) (H := H96) Rp_ppend2 rfl Tryd.underlying23) ?_
            refine WL.valw (R.lss rfl rfl) ?_
            refine WL.nil ?_
            rcases condE hy106 with ⟨hc110, hy106⟩ | ⟨hc110, hy106⟩
            · refine WP.condT rfl hc110 ?_
              refine WP.skip ?_
              refine WP.seq ?_
              refine WP.block ?_
              refine WP.region ?_
              refine WL.valw (R.mv (v := (int y_98)) h99) ?_
              refine WL.valw (R.fieldB h97 fld26_2) ?_
              refine WL.valw (R.loadB (i := 0) (v := vp_ppend2) S rfl rfl lay23 rfl) ?_
              refine WL.valw (R.mv (v := (int y_100)) h101) ?_
              obtain ⟨x111, hx111, hy106⟩ := bindE hy106
              refine W.idx (α := Str) Rp_ppend2 rfl rfl el23 hx111 ?_
              rintro a112 _ hA113 rfl
              refine WL.valw (R.loadH (v := (str x111)) S rfl hA113 lay9 rfl) ?_
              refine WL.valw (R.lenS (a := x111) rfl Tryd.underlying9) ?_
              refine WL.valw (R.add rfl rfl) ?_
              refine WL.valw (R.add rfl rfl) ?_
              refine WL.valw (R.as (v := (int (wr (y_98 + (wr (4 + (x111.length : Int))))))) rfl) ?_
              refine WL.nil ?_
              refine WP.region ?_
              refine WL.valw (R.mv (v := (int y_100)) h101) ?_
              refine WL.valw (R.add rfl rfl) ?_
              refine WL.valw (R.as (v := (int (wr (y_100 + 1)))) rfl) ?_
              refine WL.nil ?_
              obtain rfl := Option.some.inj hy106
              exact ⟨rfl, ⟨H96, h97, rfl, rfl, Rp_ppend0, Rp_ppend1, Rp_ppend2, Rp_ppend4, S⟩⟩
            · refine WP.condF rfl hc110 ?_
              refine WP.exit ?_
              obtain rfl := Option.some.inj hy106
              obtain rfl := hy107
              exact ⟨H96, h99, (S.drop _ (.cons _ .slnil))⟩
        · rintro f w ⟨H102, h104, S⟩
          refine WP.seq ?_
          refine WP.region ?_
          refine WL.valw (R.mv (v := (int y_103)) h104) ?_
          refine WL.valw (R.as (v := (int y_103)) rfl) ?_
          refine WL.nil ?_
          obtain rfl := Option.some.inj h
          refine WP.ret (Out.one rfl S rfl ?_)
          exact rfl
set_option maxRecDepth 10000 in
set_option maxHeartbeats 4000000 in
theorem ascii_Lower_ok {w0 : World} {H0 : Hp} (hw : Holds w0 H0) (hG : Tryd.Gl w0) (p_s : Str) {r : Str} (h : ascii_Lower p_s = some r) :
    Con Tryd.prog 50 [(str p_s)] w0 H0 (fun H' v => v = (str r)) := by
  refine Con.mk (N := 30) Tryd.func50 rfl rfl (by kernel_rfl) rfl ?_
  have S := St.start hw
  refine WP.seq ?_
  refine WP.region ?_
  refine WL.valw (R.as (v := (str [])) rfl) ?_
  refine WL.nil ?_
  refine WP.seq ?_
  refine WP.region ?_
  refine WL.valw (R.mv (v := (str p_s)) rfl) ?_
  refine W.bytes (s := p_s) S rfl Tryd.underlying9 Tryd.underlying73 Tryd.underlying5 ?_
  intro b1 c2 w3 hc2 S
  refine WL.valw (R.as (v := (.slice (some ⟨b1, 0, none⟩) p_s.length c2)) rfl) ?_
  refine WL.nil ?_
  refine WP.seq ?_
  refine WP.seq ?_
  refine WP.region ?_
  refine WL.valw (R.mv (v := (.slice (some ⟨b1, 0, none⟩) p_s.length c2)) rfl) ?_
  refine WL.valw (R.lenV rfl Tryd.underlying73) ?_
  refine WL.valw (R.mv (v := (int 0)) rfl) ?_
  refine WL.nil ?_
  obtain ⟨m14, hr20, h⟩ := bindE h
  refine WP.cut (fun f w => ∃ (H12 : Hp), f 3 = (.slice (some ⟨b1, 0, none⟩) p_s.length c2) ∧ m14.length = p_s.length ∧ St w0 H0 w H12 [.box b1 5 (m14.map byt)]) ?_ ?_
  · refine WP.block ?_
    refine WP.loopM (ascii_Lower_L0 p_s) (fun s f w => match s with | (y_8, m10) => ∃ (H4 : Hp), f 3 = (.slice (some ⟨b1, 0, none⟩) p_s.length c2) ∧ f 8 = (.slice (some ⟨b1, 0, none⟩) p_s.length c2) ∧ f 9 = (int (p_s.length : Int)) ∧ f 10 = (int y_8) ∧ m10.length = p_s.length ∧ St w0 H0 w H4 [.box b1 5 (m10.map byt)]) (0, p_s) m14 hr20 ?_ ?_
    · exact ⟨H0, rfl, rfl, rfl, rfl, rfl, S⟩
    · intro s f w hI y16 hy17 hy18
      obtain ⟨y_8, m10⟩ := s
      obtain ⟨H4, h5, h6, h7, h9, hL11, S⟩ := hI
      refine WP.seq ?_
      refine WP.region ?_
      refine WL.valw (R.lss h9 h7) ?_
      refine WL.nil ?_
      refine WP.seq ?_
      rcases condE hy17 with ⟨hc21, hy17⟩ | ⟨hc21, hy17⟩
      · refine WP.condT rfl hc21 ?_
        refine WP.skip ?_
        refine WP.seq ?_
        refine WP.block ?_
        refine WP.seq ?_
        refine WP.region ?_
        refine WL.valw (R.mv (v := (int y_8)) h9) ?_
        obtain ⟨c22, hc22, hy17⟩ := bindE hy17
        have hq23 := (map_byt_get hc22).2
        refine WL.valw (R.idxB h6 h9 el73 (by have := (map_byt_get hc22).2; have hl : m10.length = p_s.length := hL11; omega)) ?_
        obtain ⟨c24, hc24, hy17⟩ := bindE hy17
        refine WL.valw (R.loadB (i := 0) S rfl rfl lay5 (map_byt_get hc24).1) ?_
        refine WL.valw (R.as (v := (int y_8)) rfl) ?_
        refine WL.valw (R.as (v := (byt c24)) rfl) ?_
        refine WL.nil ?_
        refine WP.seq ?_
        refine WP.region ?_
        refine WL.valw (R.mv (v := (byt c24)) rfl) ?_
        refine WL.valw (R.geq8 (a := c24) (b := 65) rfl rfl) ?_
        refine WL.valw (R.mv (v := (boo (decide (65 ≤ c24)))) rfl) ?_
        refine WL.grp 3 [18, 19] 20 (boo ((decide (65 ≤ c24)) && (decide (c24 ≤ 90)))) ?_ ?_
        · rcases boolE (decide (65 ≤ c24)) with hb25 | hb25
          · refine WL.gyes rfl rfl hb25 ?_
            refine WL.valw (R.mv (v := (byt c24)) rfl) ?_
            refine WL.gyes rfl rfl hb25 ?_
            refine WL.valw (R.leq8 (a := c24) (b := 90) rfl rfl) ?_
            refine WL.valw (R.pickT rfl hb25 rfl) ?_
            exact WL.nil ⟨(andT hb25), (by repeat (first | refine agree_upd rfl ?_ | refine agree_upds' rfl ?_ | exact agree_refl)), rfl⟩
          · refine WL.gno rfl rfl hb25 ?_
            refine WL.gno rfl rfl hb25 ?_
            refine WL.valw (R.pickF rfl hb25 rfl) ?_
            exact WL.nil ⟨(andF hb25), (by repeat (first | refine agree_upd rfl ?_ | refine agree_upds' rfl ?_ | exact agree_refl)), rfl⟩
        · intro us
          refine WL.nil ?_
          rcases condE hy17 with ⟨hc27, hy17⟩ | ⟨hc27, hy17⟩
          · refine WP.condT rfl hc27 ?_
            refine WP.region ?_
            refine WL.valw (R.mv (v := (.slice (some ⟨b1, 0, none⟩) p_s.length c2)) h5) ?_
            refine WL.valw (R.mv (v := (int y_8)) rfl) ?_
            refine WL.valw (R.mv (v := (byt c24)) rfl) ?_
            refine WL.valw (R.add8 (a := c24) (b := 97) rfl rfl) ?_
            refine WL.valw (R.sub8 (a := c24 + 97) (b := 65) rfl rfl) ?_
            obtain ⟨c28, hc28, hy17⟩ := bindE hy17
            have hq29 := (map_byt_get hc28).2
            refine WL.valw (R.idxB rfl rfl el73 (by have := (map_byt_get hc28).2; have hl : m10.length = p_s.length := hL11; omega)) ?_
            refine W.store (i := 0) ((m10.set y_8.toNat ((c24 + 97) - 65)).map byt) S rfl rfl rfl lay5 rfl rfl (by rw [List.length_map]; omega) (splice_byt _ _ _ (by omega)) ?_
            intro w30 S
            refine WL.nil ?_
            refine WP.region ?_
            refine WL.valw (R.add h9 rfl) ?_
            refine WL.valw (R.mv (v := (int (wr (y_8 + 1)))) rfl) ?_
            refine WL.nil ?_
            obtain rfl := Option.some.inj hy17
            exact ⟨rfl, ⟨H4, h5, h6, h7, rfl, (List.length_set.trans hL11), S⟩⟩
          · refine WP.condF rfl hc27 ?_
            refine WP.skip ?_
            refine WP.region ?_
            refine WL.valw (R.add h9 rfl) ?_
            refine WL.valw (R.mv (v := (int (wr (y_8 + 1)))) rfl) ?_
            refine WL.nil ?_
            obtain rfl := Option.some.inj hy17
            exact ⟨rfl, ⟨H4, h5, h6, h7, rfl, hL11, S⟩⟩
      · refine WP.condF rfl hc21 ?_
        refine WP.exit ?_
        obtain rfl := Option.some.inj hy17
        obtain rfl := hy18
        exact ⟨H4, h5, hL11, S⟩
  · rintro f w ⟨H12, h13, hL15, S⟩
    refine WP.seq ?_
    refine WP.region ?_
    refine WL.valw (R.mv (v := (.slice (some ⟨b1, 0, none⟩) p_s.length c2)) h13) ?_
    refine WL.valw (R.strB (i := 0) (s := m14) S (by rw [show m14.length = p_s.length from hL15]; exact rfl) rfl Tryd.underlying73 Tryd.underlying9 Tryd.underlying5) ?_
    refine WL.valw (R.as (v := (str m14)) rfl) ?_
    refine WL.nil ?_
    obtain rfl := Option.some.inj h
    refine WP.ret (Out.one rfl S rfl ?_)
    exact rfl
set_option maxRecDepth 10000 in
set_option maxHeartbeats 4000000 in
theorem fieldline_named_1_ok {w0 : World} {H0 : Hp} (hw : Holds w0 H0) (hG : Tryd.Gl w0) (p_f : GField) (c_x0 : Str) {ac_x0 : Addr} (Ac_x0 : At H0 ac_x0 [(str c_x0)]) {r : Bool} (h : fieldline_named_1 p_f c_x0 = some r) :
    Con Tryd.prog 51 [(agg [(str p_f.fName), (str p_f.fValue)]), (.pointer (some ac_x0))] w0 H0 (fun H' v => v = (boo r)) := by
  refine Con.mk (N := 17) Tryd.func51 rfl rfl (by kernel_rfl) rfl ?_
  have S := St.start hw
  refine WP.seq ?_
  refine WP.region ?_
  refine W.box [(str p_f.fName), (str p_f.fValue)] S rfl rfl ?_
  intro b1 w2 S
  refine WL.valw (R.as (v := (boo false)) rfl) ?_
  refine WL.nil ?_
  refine WP.seq ?_
  refine WP.quiet S (by kernel_rfl) (by kernel_rfl) ?_
  refine WQ.val (fun _ _ => (R.fieldB rfl fld39_0)) ?_
  refine WQ.val (fun w hw => by obtain ⟨_, hq, S⟩ := hw; exact (R.loadB (i := 0) (v := (str p_f.fName)) S rfl rfl lay9 rfl)) ?_
  refine WQ.val (fun _ _ => (R.lenS (a := p_f.fName) rfl Tryd.underlying9)) ?_
  refine WQ.val (fun w hw => by obtain ⟨_, hq, S⟩ := hw; exact (R.loadH (v := (str c_x0)) S rfl (At.mono Ac_x0 hq (by simp)) lay9 rfl)) ?_
  refine WQ.val (fun _ _ => (R.lenS (a := c_x0) rfl Tryd.underlying9)) ?_
  refine WQ.val (fun _ _ => (R.eql rfl rfl)) ?_
  refine WQ.val (fun _ _ => (R.mv (v := (boo ((p_f.fName.length : Int) == (c_x0.length : Int)))) rfl)) ?_
  obtain ⟨b13, hg7, h⟩ := bindE h
  refine WQ.grp 6 [11, 12, 13, 14, 15] 16 (boo b13) ?_ ?_
  · rcases boolE ((p_f.fName.length : Int) == (c_x0.length : Int)) with hb6 | hb6
    · replace hg7 := condT hg7 hb6
      refine WQ.gyes rfl rfl hb6 ?_
      refine WQ.val (fun _ _ => (R.fieldB rfl fld39_0)) ?_
      refine WQ.gyes rfl rfl hb6 ?_
      refine WQ.val (fun w hw => by obtain ⟨_, hq, S⟩ := hw; exact (R.loadB (i := 0) (v := (str p_f.fName)) S rfl rfl lay9 rfl)) ?_
      refine WQ.gyes rfl rfl hb6 ?_
      obtain ⟨r8, hr8, hg7⟩ := bindE hg7
      refine WQ.call (v := (str r8)) rfl (fun w H' hq S => ascii_Lower_ok S.holds (hG.post S.post) p_f.fName hr8) ?_
      refine WQ.gyes rfl rfl hb6 ?_
      refine WQ.val (fun w hw => by obtain ⟨_, hq, S⟩ := hw; exact (R.loadH (v := (str c_x0)) S rfl (At.mono Ac_x0 hq (by simp)) lay9 rfl)) ?_
      refine WQ.gyes rfl rfl hb6 ?_
      refine WQ.val (fun _ _ => (R.eqlS (a := r8) (b := c_x0) rfl rfl)) ?_
      refine WQ.val (fun _ _ => (R.pickT rfl hb6 rfl)) ?_
      exact WQ.nil ⟨(congrArg boo (Option.some.inj hg7)), (by repeat (first | refine agree_upd rfl ?_ | refine agree_upds' rfl ?_ | exact agree_refl))⟩
    · replace hg7 := condF hg7 hb6
      refine WQ.gno rfl rfl hb6 ?_
      refine WQ.gno rfl rfl hb6 ?_
      refine WQ.gno rfl rfl hb6 ?_
      refine WQ.gno rfl rfl hb6 ?_
      refine WQ.gno rfl rfl hb6 ?_
      refine WQ.val (fun _ _ => (R.pickF rfl hb6 rfl)) ?_
      exact WQ.nil ⟨(congrArg boo (Option.some.inj hg7)), (by repeat (first | refine agree_upd rfl ?_ | refine agree_upds' rfl ?_ | exact agree_refl))⟩
  · intro us
    refine WQ.val (fun _ _ => (R.as (v := (boo b13)) rfl)) ?_
    refine WQ.nil ?_
    intro w3 H4 hle5 S
    have Ac_x0 := At.mono Ac_x0 hle5 (by simp)
    obtain rfl := Option.some.inj h
    refine WP.ret (Out.one rfl S rfl ?_)
    exact rfl
set_option maxRecDepth 10000 in
set_option maxHeartbeats 4000000 in
theorem fieldline_named_ok {w0 : World} {H0 : Hp} (hw : Holds w0 H0) (hG : Tryd.Gl w0) (p_name : Str) {r : (GField → Option Bool)} (h : fieldline_named p_name = some r) :
    Con Tryd.prog 44 [(str p_name)] w0 H0 (fun H' v => ∃ (k : FuncId) (c : List Value), v = .func (.func k) #[] c.toArray ∧ ∀ {w : World} {H : Hp}, H'.le H → Holds w H → Tryd.Gl w → ∀ (x0 : GField) (rr : Bool), r x0 = some rr → Con Tryd.prog k ([(agg [(str x0.fName), (str x0.fValue)])] ++ c) w H (fun H' v => v = (boo rr))) := by
  refine Con.mk (N := 6) Tryd.func44 rfl rfl (by kernel_rfl) rfl ?_
  have S := St.start hw
  refine WP.seq ?_
  refine WP.region ?_
  refine W.box [(str p_name)] S rfl rfl ?_
  intro b1 w2 S
  refine WL.valw (R.as (v := .nilFunc) rfl) ?_
  refine WL.nil ?_
  refine WP.seq ?_
  refine WP.region ?_
  refine WL.valw (R.loadB (i := 0) (v := (str p_name)) S rfl rfl lay9 rfl) ?_
  obtain ⟨r3, hr3, h⟩ := bindE h
  refine W.call S rfl (ascii_Lower_ok S.holds (hG.post S.post) p_name hr3) ?_
  rintro v4 w5 H6 hle7 S rfl
  refine W.store (i := 0) [(str r3)] S rfl rfl rfl lay9 rfl rfl (Nat.le_of_ble_eq_true rfl) rfl ?_
  intro w8 S
  refine WL.nil ?_
  refine WP.seq ?_
  refine WP.region ?_
  obtain ⟨H9, hle10, hs11, _, S⟩ := S.settle (i := 0) rfl
  replace S : St w0 H0 _ H9 [] := S
  have hA12 : At H9 ⟨b1, 0, none⟩ [(str r3)] := ⟨_, _, rfl, hs11, [], by simp⟩
  refine WL.valw (R.mkFunc (vs := [(.pointer (some ⟨b1, 0, none⟩))]) rfl) ?_
  refine WL.valw (R.as (v := (.func (.func 51) #[] [(.pointer (some ⟨b1, 0, none⟩))].toArray)) rfl) ?_
  refine WL.nil ?_
  obtain rfl := Option.some.inj h
  refine WP.ret (Out.one rfl S rfl ?_)
  exact ⟨_, [(.pointer (some ⟨b1, 0, none⟩))], rfl, fun hle hw hG x0 r h => fieldline_named_1_ok hw hG x0 r3 (At.mono hA12 hle (by simp)) h⟩
set_option maxRecDepth 10000 in
set_option maxHeartbeats 4000000 in
theorem fieldline_filter_ok {w0 : World} {H0 : Hp} (hw : Holds w0 H0) (hG : Tryd.Gl w0) (p_l : (List GField)) (p_keep : (GField → Option Bool)) {vp_l : Value} {kp_keep : FuncId} {cp_keep : List Value} (Rp_l : Sl (α := GField) H0 vp_l p_l) (Fp_keep : ∀ {w : World} {H : Hp}, H0.le H → Holds w H → Tryd.Gl w → ∀ (x0 : GField) (rr : Bool), p_keep x0 = some rr → Con Tryd.prog kp_keep ([(agg [(str x0.fName), (str x0.fValue)])] ++ cp_keep) w H (fun H' v => v = (boo rr))) {r : (List GField)} (h : fieldline_filter p_l p_keep = some r) :
    Con Tryd.prog 43 [vp_l, (.func (.func kp_keep) #[] cp_keep.toArray)] w0 H0 (fun H' v => Sl (α := GField) H' v r) := by
  refine Con.mk (N := 23) Tryd.func43 rfl rfl (by kernel_rfl) rfl ?_
  have S := St.start hw
  refine WP.seq ?_
  refine WP.region ?_
  refine WL.valw (R.as (v := (.slice none 0 0)) rfl) ?_
  refine WL.nil ?_
  refine WP.seq ?_
  refine WP.region ?_
  refine WL.valw (R.as (v := (.slice none 0 0)) rfl) ?_
  refine WL.nil ?_
  refine WP.seq ?_
  refine WP.seq ?_
  refine WP.region ?_
  refine WL.valw (R.mv (v := vp_l) rfl) ?_
  refine WL.valw (R.lenL (α := GField) (xs := p_l) (H := H0) Rp_l rfl Tryd.underlying24) ?_
  refine WL.valw (R.mv (v := (int 0)) rfl) ?_
  refine WL.nil ?_
  have S := S.addNil 39 2
  obtain ⟨out_12, hr20, h⟩ := bindE h
  refine WP.cut (fun f w => ∃ (H11 : Hp) (v13 : Value), f 5 = v13 ∧ Sl (α := GField) H11 v13 out_12 ∧ St w0 H0 w H11 [.row v13 39 2 out_12.length]) ?_ ?_
  · refine WP.block ?_
    refine WP.loopM (fieldline_filter_L0 p_l p_keep) (fun s f w => match s with | (out_3, y_9) => ∃ (H1 : Hp) (v4 : Value), f 1 = (.func (.func kp_keep) #[] cp_keep.toArray) ∧ f 5 = v4 ∧ f 8 = vp_l ∧ f 9 = (int (p_l.length : Int)) ∧ f 10 = (int y_9) ∧ Sl (α := GField) H1 v4 out_3 ∧ Sl (α := GField) H1 vp_l p_l ∧ St w0 H0 w H1 [.row v4 39 2 out_3.length]) (([] : List GField), 0) out_12 hr20 ?_ ?_
    · exact ⟨H0, .slice none 0 0, rfl, rfl, rfl, rfl, rfl, Sl.nil, Rp_l, S⟩
    · intro s f w hI y16 hy17 hy18
      obtain ⟨out_3, y_9⟩ := s
      obtain ⟨H1, v4, h2, h6, h7, h8, h10, R5, Rp_l, S⟩ := hI
      refine WP.seq ?_
      refine WP.region ?_
      refine WL.valw (R.lss h10 h8) ?_
      refine WL.nil ?_
      refine WP.seq ?_
      rcases condE hy17 with ⟨hc21, hy17⟩ | ⟨hc21, hy17⟩
      · refine WP.condT rfl hc21 ?_
        refine WP.skip ?_
        refine WP.seq ?_
        refine WP.block ?_
        refine WP.seq ?_
        refine WP.region ?_
        obtain ⟨x22, hx22, hy17⟩ := bindE hy17
        refine W.idx (α := GField) Rp_l h7 h10 el24 hx22 ?_
        rintro a23 _ hA24 rfl
        refine WL.valw (R.loadHN (vs := [(str x22.fName), (str x22.fValue)]) S rfl hA24 lay39 rfl rfl) ?_
        refine W.alloc [(str []), (str [])] S zer39 ?_
        intro b25 w26 S
        refine W.store (i := 0) [(str x22.fName), (str x22.fValue)] S rfl rfl rfl lay39 rfl rfl (Nat.le_of_ble_eq_true rfl) rfl ?_
        intro w27 S
        refine WL.nil ?_
        refine WP.seq ?_
        refine WP.region ?_
        refine WL.valw (R.mv (v := (.func (.func kp_keep) #[] cp_keep.toArray)) h2) ?_
        refine WL.valw (R.loadBN (i := 0) (vs := [(str x22.fName), (str x22.fValue)]) S rfl rfl lay39 rfl rfl) ?_
        obtain ⟨r28, hr28, hy17⟩ := bindE hy17
        refine W.callv S rfl rfl (Fp_keep (S.post.le) S.holds (hG.post S.post) x22 _ hr28) ?_
        rintro v29 w30 H31 hle32 S rfl
        have R5 := Sl.mono R5 hle32
        have Rp_l := Sl.mono Rp_l hle32
        have hA24 := At.mono hA24 hle32 (by simp)
        refine WL.nil ?_
        rcases condE hy17 with ⟨hc33, hy17⟩ | ⟨hc33, hy17⟩
        · refine WP.condT rfl hc33 ?_
          refine WP.region ?_
          refine WL.valw (R.mv (v := v4) h6) ?_
          refine WL.valw (R.loadBN (i := 0) (vs := [(str x22.fName), (str x22.fValue)]) S rfl rfl lay39 rfl rfl) ?_
          refine W.bslice (α := GField) [(agg [(str x22.fName), (str x22.fValue)])] ([x22] : List GField) S el24 rfl rfl rfl (by decide) (Go.Eng.encS ⟨rfl, rfl⟩ enc0) ?_
          intro u34 w35 H36 hle37 R38 S
          have R5 := Sl.mono R5 hle37
          have Rp_l := Sl.mono Rp_l hle37
          have hA24 := At.mono hA24 hle37 (by simp)
          obtain ⟨l39, hl39, hy17⟩ := bindE hy17
          refine W.app (α := GField) (i := 2) S el24 rfl rfl rfl R5 R38 hl39 ?_
          intro v40 w41 H42 hle43 R44 S
          have R5 := Sl.mono R5 hle43
          have Rp_l := Sl.mono Rp_l hle43
          have hA24 := At.mono hA24 hle43 (by simp)
          have R38 := Sl.mono R38 hle43
          refine WL.valw (R.as (v := v40) rfl) ?_
          refine WL.nil ?_
          refine WP.region ?_
          refine WL.valw (R.add h10 rfl) ?_
          refine WL.valw (R.mv (v := (int (wr (y_9 + 1)))) rfl) ?_
          refine WL.nil ?_
          obtain rfl := Option.some.inj hy17
          exact ⟨rfl, ⟨H42, v40, h2, rfl, h7, h8, rfl, R44, Rp_l, (S.drop _ (.cons _ (.cons _ (.cons_cons _ .slnil))))⟩⟩
        · refine WP.condF rfl hc33 ?_
          refine WP.skip ?_
          refine WP.region ?_
          refine WL.valw (R.add h10 rfl) ?_
          refine WL.valw (R.mv (v := (int (wr (y_9 + 1)))) rfl) ?_
          refine WL.nil ?_
          obtain rfl := Option.some.inj hy17
          exact ⟨rfl, ⟨H31, v4, h2, h6, h7, h8, rfl, R5, Rp_l, (S.drop _ (.cons _ (.cons_cons _ .slnil)))⟩⟩
      · refine WP.condF rfl hc21 ?_
        refine WP.exit ?_
        obtain rfl := Option.some.inj hy17
        obtain rfl := hy18
        exact ⟨H1, v4, h6, R5, S⟩
  · rintro f w ⟨H11, v13, h15, R14, S⟩
    refine WP.seq ?_
    refine WP.region ?_
    refine WL.valw (R.mv (v := v13) h15) ?_
    refine WL.valw (R.as (v := v13) rfl) ?_
    refine WL.nil ?_
    obtain rfl := Option.some.inj h
    refine WP.ret (Out.one rfl S rfl ?_)
    exact R14
set_option maxRecDepth 10000 in
set_option maxHeartbeats 4000000 in
theorem fieldline_Get_ok {w0 : World} {H0 : Hp} (hw : Holds w0 H0) (hG : Tryd.Gl w0) (p_l : (List GField)) (p_name : Str) {vp_l : Value} (Rp_l : Sl (α := GField) H0 vp_l p_l) {r : (List Str)} (h : fieldline_Get p_l p_name = some r) :
    Con Tryd.prog 35 [vp_l, (str p_name)] w0 H0 (fun H' v => Sl (α := Str) H' v r) := by
  refine Con.mk (N := 24) Tryd.func35 rfl rfl (by kernel_rfl) rfl ?_
  have S := St.start hw
  refine WP.seq ?_
  refine WP.region ?_
  refine WL.valw (R.as (v := (.slice none 0 0)) rfl) ?_
  refine WL.nil ?_
  refine WP.seq ?_
  refine WP.region ?_
  refine WL.valw (R.as (v := (.slice none 0 0)) rfl) ?_
  refine WL.nil ?_
  refine WP.seq ?_
  refine WP.seq ?_
  refine WP.region ?_
  refine WL.valw (R.mv (v := vp_l) rfl) ?_
  refine WL.valw (R.mv (v := (str p_name)) rfl) ?_
  obtain ⟨r1, hr1, h⟩ := bindE h
  refine W.call S rfl (fieldline_named_ok S.holds (hG.post S.post) p_name hr1) ?_
  rintro v2 w3 H4 hle5 S ⟨kr1, cr1, rfl, Fr1⟩
  have Rp_l := Sl.mono Rp_l hle5
  obtain ⟨r6, hr6, h⟩ := bindE h
  refine W.call S rfl (fieldline_filter_ok S.holds (hG.post S.post) p_l r1 Rp_l (fun hle => Fr1 (Hp.le.trans (Hp.le.refl _) hle)) hr6) ?_
  rintro v7 w8 H9 hle10 S R11
  have Rp_l := Sl.mono Rp_l hle10
  refine WL.valw (R.lenL (α := GField) (xs := r6) (H := H9) R11 rfl Tryd.underlying24) ?_
  refine WL.valw (R.mv (v := (int 0)) rfl) ?_
  refine WL.nil ?_
  have S := S.addNil 9 1
  obtain ⟨out_22, hr30, h⟩ := bindE h
  refine WP.cut (fun f w => ∃ (H21 : Hp) (v23 : Value), f 5 = v23 ∧ Sl (α := Str) H21 v23 out_22 ∧ St w0 H0 w H21 [.row v23 9 1 out_22.length]) ?_ ?_
  · refine WP.block ?_
    refine WP.loopM (fieldline_Get_L0 r6) (fun s f w => match s with | (out_13, y_19) => ∃ (H12 : Hp) (v14 : Value), f 5 = v14 ∧ f 11 = v7 ∧ f 12 = (int (r6.length : Int)) ∧ f 13 = (int y_19) ∧ Sl (α := Str) H12 v14 out_13 ∧ Sl (α := GField) H12 v7 r6 ∧ St w0 H0 w H12 [.row v14 9 1 out_13.length]) (([] : List Str), 0) out_22 hr30 ?_ ?_
    · exact ⟨H9, .slice none 0 0, rfl, rfl, rfl, rfl, Sl.nil, R11, S⟩
    · intro s f w hI y26 hy27 hy28
      obtain ⟨out_13, y_19⟩ := s
      obtain ⟨H12, v14, h16, h17, h18, h20, R15, R11, S⟩ := hI
      refine WP.seq ?_
      refine WP.region ?_
      refine WL.valw (R.lss h20 h18) ?_
      refine WL.nil ?_
      refine WP.seq ?_
      rcases condE hy27 with ⟨hc31, hy27⟩ | ⟨hc31, hy27⟩
      · refine WP.condT rfl hc31 ?_
        refine WP.skip ?_
        refine WP.seq ?_
        refine WP.block ?_
        refine WP.seq ?_
        refine WP.region ?_
        obtain ⟨x32, hx32, hy27⟩ := bindE hy27
        refine W.idx (α := GField) R11 h17 h20 el24 hx32 ?_
        rintro a33 _ hA34 rfl
        refine WL.valw (R.loadHN (vs := [(str x32.fName), (str x32.fValue)]) S rfl hA34 lay39 rfl rfl) ?_
        refine W.alloc [(str []), (str [])] S zer39 ?_
        intro b35 w36 S
        refine W.store (i := 0) [(str x32.fName), (str x32.fValue)] S rfl rfl rfl lay39 rfl rfl (Nat.le_of_ble_eq_true rfl) rfl ?_
        intro w37 S
        refine WL.nil ?_
        refine WP.region ?_
        refine WL.valw (R.mv (v := v14) h16) ?_
        refine WL.valw (R.fieldB rfl fld39_1) ?_
        refine WL.valw (R.loadB (i := 0) (v := (str x32.fValue)) S rfl rfl lay9 rfl) ?_
        refine W.bslice (α := Str) [(str x32.fValue)] ([x32.fValue] : List Str) S el23 rfl rfl rfl (by decide) (Go.Eng.encS ⟨rfl, rfl⟩ enc0) ?_
        intro u38 w39 H40 hle41 R42 S
        have R15 := Sl.mono R15 hle41
        have R11 := Sl.mono R11 hle41
        have hA34 := At.mono hA34 hle41 (by simp)
        obtain ⟨l43, hl43, hy27⟩ := bindE hy27
        refine W.app (α := Str) (i := 2) S el23 rfl rfl rfl R15 R42 hl43 ?_
        intro v44 w45 H46 hle47 R48 S
        have R15 := Sl.mono R15 hle47
        have R11 := Sl.mono R11 hle47
        have hA34 := At.mono hA34 hle47 (by simp)
        have R42 := Sl.mono R42 hle47
        refine WL.valw (R.as (v := v44) rfl) ?_
        refine WL.nil ?_
        refine WP.region ?_
        refine WL.valw (R.add h20 rfl) ?_
        refine WL.valw (R.mv (v := (int (wr (y_19 + 1)))) rfl) ?_
        refine WL.nil ?_
        obtain rfl := Option.some.inj hy27
        exact ⟨rfl, ⟨H46, v44, rfl, h17, h18, rfl, R48, R11, (S.drop _ (.cons _ (.cons _ (.cons_cons _ .slnil))))⟩⟩
      · refine WP.condF rfl hc31 ?_
        refine WP.exit ?_
        obtain rfl := Option.some.inj hy27
        obtain rfl := hy28
        exact ⟨H12, v14, h16, R15, S⟩
  · rintro f w ⟨H21, v23, h25, R24, S⟩
    refine WP.seq ?_
    refine WP.region ?_
    refine WL.valw (R.mv (v := v23) h25) ?_
    refine WL.valw (R.as (v := v23) rfl) ?_
    refine WL.nil ?_
    obtain rfl := Option.some.inj h
    refine WP.ret (Out.one rfl S rfl ?_)
    exact R24
set_option maxRecDepth 10000 in
set_option maxHeartbeats 4000000 in
theorem fieldline_First_ok {w0 : World} {H0 : Hp} (hw : Holds w0 H0) (hG : Tryd.Gl w0) (p_l : (List GField)) (p_name : Str) {vp_l : Value} (Rp_l : Sl (α := GField) H0 vp_l p_l) {r : (Str × Bool)} (h : fieldline_First p_l p_name = some r) :
    Con Tryd.prog 27 [vp_l, (str p_name)] w0 H0 (fun H' v => v = (.tuple ⟨[(str r.1), (boo r.2)]⟩)) := by
  refine Con.mk (N := 16) Tryd.func27 rfl rfl (by kernel_rfl) rfl ?_
  have S := St.start hw
  refine WP.seq ?_
  refine WP.region ?_
  refine WL.valw (R.as (v := (str [])) rfl) ?_
  refine WL.valw (R.as (v := (boo false)) rfl) ?_
  refine WL.nil ?_
  refine WP.seq ?_
  refine WP.region ?_
  refine WL.valw (R.mv (v := vp_l) rfl) ?_
  refine WL.valw (R.mv (v := (str p_name)) rfl) ?_
  obtain ⟨r1, hr1, h⟩ := bindE h
  refine W.call S rfl (fieldline_Get_ok S.holds (hG.post S.post) p_l p_name Rp_l hr1) ?_
  rintro v2 w3 H4 hle5 S R6
  have Rp_l := Sl.mono Rp_l hle5
  refine WL.valw (R.as (v := v2) rfl) ?_
  refine WL.nil ?_
  refine WP.seq ?_
  refine WP.seq ?_
  refine WP.region ?_
  refine WL.valw (R.mv (v := v2) rfl) ?_
  refine WL.valw (R.lenL (α := Str) (xs := r1) (H := H4) R6 rfl Tryd.underlying23) ?_
  refine WL.valw (R.eql rfl rfl) ?_
  refine WL.nil ?_
  rcases condE h with ⟨hc7, h⟩ | ⟨hc7, h⟩
  · refine WP.condT rfl hc7 ?_
    refine WP.seq ?_
    refine WP.region ?_
    refine WL.valw (R.as (v := (str [])) rfl) ?_
    refine WL.valw (R.as (v := (boo false)) rfl) ?_
    refine WL.nil ?_
    obtain rfl := Option.some.inj h
    refine WP.ret (Out.two rfl S rfl rfl ?_)
    exact rfl
  · refine WP.condF rfl hc7 ?_
    refine WP.skip ?_
    refine WP.seq ?_
    refine WP.region ?_
    refine WL.valw (R.mv (v := v2) rfl) ?_
    obtain ⟨x8, hx8, h⟩ := bindE h
    refine W.idx (α := Str) R6 rfl rfl el23 hx8 ?_
    rintro a9 _ hA10 rfl
    refine WL.valw (R.loadH (v := (str x8)) S rfl hA10 lay9 rfl) ?_
    refine WL.valw (R.as (v := (str x8)) rfl) ?_
    refine WL.valw (R.as (v := (boo true)) rfl) ?_
    refine WL.nil ?_
    obtain rfl := Option.some.inj h
    refine WP.ret (Out.two rfl S rfl rfl ?_)
    exact rfl
end Go.Proofs
