/- A part of the proof of laws of the seat: written by program over the translation. -/
import Derived.Test.YtogfdiigokidaaaGreatDoorEng31
import Derived.Test.YtogfdiigokidaaaGreatDoorGenJ3
namespace Go.Proofs
set_option maxHeartbeats 4000000
set_option maxRecDepth 10000
open Go.Eng Go.Eng.Pure
set_option linter.unusedVariables false
theorem variants_media_form_ok {w0 : World} {H0 : Hp} (hw : Holds w0 H0) (hG : Tryz.Gl w0) (p_x0 : Unit) (p_s : Str) {r : (Str × Bool)} (h : variants_media_form p_x0 p_s = some r) :
  Con Tryz.prog 271 [(agg []), (str p_s)] w0 H0 (fun H' v => v = (.tuple ⟨[(str r.1), (boo r.2)]⟩)) := by
 refine Con.mk (N := 42) Tryz.func271 rfl rfl (by kernel_rfl) rfl ?_
 have S := St.start hw
 refine WP.s<|WP.g<|W.box [] S rfl rfl ?_
 intro b1 w2 S
 refine WL.a (str []) rfl<|WL.a (boo false) rfl<|WL.e<|WP.s<|WP.g<|WL.m (str p_s) rfl ?_
 obtain ⟨r3, hr3, h⟩ := bindE h
 refine W.call S rfl (mediatype_Parse_ok S.holds (hG.post S.post) p_s hr3) ?_
 rintro v4 w5 H6 hle7 S ⟨u8, rfl, R9⟩
 refine WL.m (.tuple ⟨[(agg [(str r3.1.fType), (str r3.1.fSub), u8]), (boo r3.2)]⟩) rfl<|WL.w (R.ext rfl rfl)<|WL.w (R.ext rfl rfl)<|W.alloc [(str []), (str []), (.slice none 0 0)] S zer155 ?_
 intro b10 w11 S
 refine W.store (i := 0) [(str r3.1.fType), (str r3.1.fSub), u8] S rfl rfl rfl lay155 rfl (AllOne.all (l := [(str r3.1.fType), (str r3.1.fSub), u8]) (.cons rfl (.cons rfl (.cons (Sl.oneC R9) .nil)))) (Nat.le_of_ble_eq_true rfl) rfl ?_
 intro w12 S
 refine WL.a (boo r3.2) rfl<|WL.e<|WP.s<|WP.s<|WP.g<|WL.w (R.fieldB rfl fld155_2)<|WL.w (R.loadB (i := 0) (v := u8) S rfl rfl lay153 rfl)<|WL.w (R.lenL (α := GParam) (xs := r3.1.fParams) (H := H6) R9 rfl Tryz.underlying153)<|WL.m (int 0) rfl<|WL.e ?_
 obtain ⟨ok_24, hr30, h⟩ := bindE h
 refine WP.cut (fun f w => ∃ (H22 : Hp), f 1 = (str p_s) ∧ f 7 = (boo ok_24) ∧ St w0 H0 w H22 []) ?_ ?_
 ·refine WP.block ?_
  refine WP.loopM (variants_media_form_L0 r3) (fun s f w => match s with | (ok_16, y_20) => ∃ (H13 : Hp), f 1 = (str p_s) ∧ f 6 = (ptr b10 0) ∧ f 7 = (boo ok_16) ∧ f 16 = u8 ∧ f 17 = (int (r3.1.fParams.length : Int)) ∧ f 18 = (int y_20) ∧ Sl (α := GParam) H13 u8 r3.1.fParams ∧ St w0 H0 w H13 [.box b10 155 [(str r3.1.fType), (str r3.1.fSub), u8]]) (r3.2, 0) ok_24 hr30 ?_ ?_
  ·exact ⟨H6, rfl, rfl, rfl, rfl, rfl, rfl, R9, (S.drop _ (.cons_cons _ (.cons _ .slnil)))⟩
  ·intro s f w hI y26 hy27 hy28
   obtain ⟨ok_16, y_20⟩ := s
   obtain ⟨H13, h14, h15, h17, h18, h19, h21, R9, S⟩ := hI
   refine WP.s<|WP.g<|WL.w (R.lss h21 h19)<|WL.e<|WP.s ?_
   rcases condE hy27 with ⟨hc31, hy27⟩ | ⟨hc31, hy27⟩
   ·refine WP.condT rfl hc31<|WP.skip<|WP.s<|WP.block<|WP.s<|WP.g<|WL.m (int y_20) h21 ?_
    obtain ⟨x32, hx32, hy27⟩ := bindE hy27
    refine W.idx (α := GParam) R9 h18 h21 el153 hx32 ?_
    rintro a33 _ hA34 rfl
    refine WL.w (R.loadHN (vs := [(str x32.fName), (str x32.fValue)]) S rfl hA34 lay158 rfl rfl)<|W.alloc [(str []), (str [])] S zer158 ?_
    intro b35 w36 S
    refine WL.a (int y_20) rfl<|W.store (i := 0) [(str x32.fName), (str x32.fValue)] S rfl rfl rfl lay158 rfl rfl (Nat.le_of_ble_eq_true rfl) rfl ?_
    intro w37 S
    refine WL.e<|WP.g<|WL.m (boo ok_16) h17<|WL.m (boo ok_16) rfl ?_
    refine WL.grp 4 [25, 26, 27] 28 (boo (ok_16 && (x32.fName != [113]))) ?_ ?_
    ·rcases boolE ok_16 with hb38 | hb38
     ·refine WL.y rfl rfl hb38<|WL.w (R.fieldB rfl fld158_0)<|WL.y rfl rfl hb38<|WL.w (R.loadB (i := 0) (v := str x32.fName) S rfl rfl lay9 rfl)<|WL.y rfl rfl hb38<|WL.w (R.neqS (a := x32.fName) (b := [113]) rfl rfl)<|WL.w (R.pickT rfl hb38 rfl) ?_
      exact WL.e ⟨(andT hb38), ag, rfl⟩
     ·refine WL.n rfl rfl hb38<|WL.n rfl rfl hb38<|WL.n rfl rfl hb38<|WL.w (R.pickF rfl hb38 rfl) ?_
      exact WL.e ⟨(andF hb38), ag, rfl⟩
    ·intro us
     refine WL.m (boo (ok_16 && (x32.fName != [113]))) rfl ?_
     obtain ⟨H40, hle41, hs42, _, S⟩ := S.settle (i := 0) rfl
     replace S : St w0 H0 _ H40 [.box b10 155 [(str r3.1.fType), (str r3.1.fSub), u8]] := S
     have hA43 : At H40 ⟨b35, 0, none⟩ [(str x32.fName), (str x32.fValue)] := ⟨_, _, rfl, hs42, [], by simp⟩
     have R9 := Sl.mono R9 hle41
     obtain ⟨b54, hg45, hy27⟩ := bindE hy27
     refine WL.grpw 8 [30, 31, 32, 33, 34, 35, 36] 37 (boo b54) (fun w => ∃ H' : Hp, H40.le H' ∧ St w0 H0 w H' [.box b10 155 [(str r3.1.fType), (str r3.1.fSub), u8]]) ?_ ?_
     ·rcases boolE (ok_16 && (x32.fName != [113])) with hb44 | hb44
      ·replace hg45 := condT hg45 hb44
       refine WL.y rfl rfl hb44<|WL.w (R.fieldB h15 fld155_2)<|WL.y rfl rfl hb44<|WL.w (R.loadB (i := 0) (v := u8) S rfl rfl lay153 rfl)<|WL.y rfl rfl hb44<|WL.m (int y_20) rfl<|WL.y rfl rfl hb44 ?_
       obtain ⟨l46, hl46, hg45⟩ := bindE hg45
       refine W.subHi (α := GParam) R9 rfl rfl el153 hl46 ?_
       intro v47 R48
       refine WL.y rfl rfl hb44<|WL.w (R.mkFunc (vs := [(.pointer (some ⟨b35, 0, none⟩))]) rfl)<|WL.y rfl rfl hb44 ?_
       obtain ⟨r49, hr49, hg45⟩ := bindE hg45
       refine W.call S rfl (slices_ContainsFunc_api_Param_api_Param_ok S.holds (hG.post S.post) l46 (fun x0 => variants_media_form_1 x0 x32) R48 (fun hle hw hG x0 r h => variants_media_form_1_ok hw hG x0 x32 (At.mono hA43 hle (by simp)) h) hr49) ?_
       rintro v50 w51 H52 hle53 S rfl
       have R9 := Sl.mono R9 hle53
       refine WL.y rfl rfl hb44<|WL.w (R.not rfl)<|WL.w (R.pickT rfl hb44 rfl) ?_
       exact WL.e ⟨(congrArg boo (oi hg45)), ag, ⟨H52, hle53, S⟩⟩
      ·replace hg45 := condF hg45 hb44
       refine WL.n rfl rfl hb44<|WL.n rfl rfl hb44<|WL.n rfl rfl hb44<|WL.n rfl rfl hb44<|WL.n rfl rfl hb44<|WL.n rfl rfl hb44<|WL.n rfl rfl hb44<|WL.w (R.pickF rfl hb44 rfl) ?_
       exact WL.e ⟨(congrArg boo (oi hg45)), ag, ⟨H40, (Hp.le.refl _), S⟩⟩
     ·intro us w56 ⟨H55, hle57, S⟩
      have R9 := Sl.mono R9 hle57
      refine WL.a (boo b54) rfl<|WL.e<|WP.g<|WL.w (R.add h21 rfl)<|WL.m (int (wr (y_20 + 1))) rfl<|WL.e ?_
      obtain rfl := oi hy27
      exact ⟨rfl, ⟨H55, h14, h15, rfl, h18, h19, rfl, R9, S⟩⟩
   ·refine WP.condF rfl hc31<|WP.exit ?_
    obtain rfl := oi hy27
    obtain rfl := hy28
    exact ⟨H13, h14, h17, (S.drop _ (.cons _ .slnil))⟩
 ·rintro f w ⟨H22, h23, h25, S⟩
  refine WP.s<|WP.g<|WL.m (str p_s) h23 ?_
  obtain ⟨r58, hr58, h⟩ := bindE h
  refine W.call S rfl (ascii_Lower_ok S.holds (hG.post S.post) p_s hr58) ?_
  rintro v59 w60 H61 hle62 S rfl
  refine WL.m (boo ok_24) h25<|WL.a (str r58) rfl<|WL.a (boo ok_24) rfl<|WL.e ?_
  obtain rfl := oi h
  refine WP.ret (Out.two rfl S rfl rfl ?_)
  exact rfl
theorem strings_Count_ok {w0 : World} {H0 : Hp} (hw : Holds w0 H0) (hG : Tryz.Gl w0) (p_s : Str) (p_substr : Str) {r : Int} (h : strings_Count p_s p_substr = some r) :
  Con Tryz.prog 286 [(str p_s), (str p_substr)] w0 H0 (fun H' v => v = (int r)) := by
 refine Con.mk (N := 34) Tryz.func286 rfl rfl (by kernel_rfl) rfl ?_
 have S := St.start hw
 refine WP.s<|WP.g<|WL.a (int 0) rfl<|WL.e<|WP.s<|WP.s<|WP.g<|WL.m (str p_substr) rfl<|WL.w (R.lenS (a := p_substr) rfl Tryz.underlying9)<|WL.w (R.eql rfl rfl)<|WL.e ?_
 rcases condE h with ⟨hc1, h⟩ | ⟨hc1, h⟩
 ·refine WP.condT rfl hc1<|WP.s<|WP.g<|WL.m (str p_s) rfl ?_
  cases h
 ·refine WP.condF rfl hc1<|WP.skip<|WP.s<|WP.s<|WP.g<|WL.m (str p_substr) rfl<|WL.w (R.lenS (a := p_substr) rfl Tryz.underlying9)<|WL.w (R.eql rfl rfl)<|WL.e ?_
  rcases condE h with ⟨hc2, h⟩ | ⟨hc2, h⟩
  ·refine WP.condT rfl hc2<|WP.s<|WP.g<|WL.m (str p_s) rfl<|WL.m (str p_substr) rfl ?_
   obtain ⟨c3, hc3, h⟩ := bindE h
   refine WL.w (R.idxS rfl rfl Tryz.underlying9 hc3)<|W.countString (s := p_s) (c := c3) Tryz.func288 rfl rfl (by kernel_rfl) (by kernel_rfl) rfl rfl<|WL.a (int (p_s.count c3 : Nat)) rfl<|WL.e ?_
   obtain rfl := oi h
   refine WP.ret (Out.one rfl S rfl ?_)
   exact rfl
  ·refine WP.condF rfl hc2<|WP.skip<|WP.s<|WP.g<|WL.a (int 0) rfl<|WL.e ?_
   obtain ⟨r13, hr14, h⟩ := bindE h
   refine WP.cut (fun _ _ => False) ?_ (fun _ _ h => h.elim)
   refine WP.block ?_
   refine WP.loopM (strings_Count_L0 p_substr) (fun s f w => match s with | (s_5, n_8) => ∃ (H4 : Hp), f 0 = (str s_5) ∧ f 1 = (str p_substr) ∧ f 5 = (int n_8) ∧ St w0 H0 w H4 []) (p_s, 0) r13 hr14 ?_ ?_
   ·exact ⟨H0, rfl, rfl, rfl, S⟩
   ·intro s f w hI y10 hy11 hy12
    obtain ⟨s_5, n_8⟩ := s
    obtain ⟨H4, h6, h7, h9, S⟩ := hI
    refine WP.block<|WP.s<|WP.g<|WL.m (str s_5) h6<|WL.m (str p_substr) h7 ?_
    obtain ⟨r15, hr15, hy11⟩ := bindE hy11
    refine W.call S rfl (strings_Index_ok S.holds (hG.post S.post) s_5 p_substr hr15) ?_
    rintro v16 w17 H18 hle19 S rfl
    refine WL.a (int r15) rfl<|WL.e<|WP.s<|WP.s<|WP.g<|WL.m (int r15) rfl<|WL.w (R.eql rfl rfl)<|WL.e ?_
    rcases condE hy11 with ⟨hc20, hy11⟩ | ⟨hc20, hy11⟩
    ·refine WP.condT rfl hc20<|WP.s<|WP.g<|WL.m (int n_8) h9<|WL.a (int n_8) rfl<|WL.e ?_
     obtain rfl := oi hy11
     obtain rfl := hy12
     obtain rfl := oi h
     refine WP.ret (Out.one rfl S rfl ?_)
     exact rfl
    ·refine WP.condF rfl hc20<|WP.skip<|WP.s<|WP.g<|WL.m (int n_8) h9<|WL.w (R.add rfl rfl)<|WL.a (int (wr (n_8 + 1))) rfl<|WL.e<|WP.g<|WL.m (str s_5) h6<|WL.m (int r15) rfl<|WL.m (str p_substr) h7 ?_
     refine WL.w (R.lenS (a := p_substr) rfl Tryz.underlying9)<|WL.w (R.add rfl rfl) ?_
     obtain ⟨s21, hs21, hy11⟩ := bindE hy11
     refine WL.w (R.subSlo rfl rfl Tryz.underlying9 hs21)<|WL.a (str s21) rfl<|WL.e ?_
     obtain rfl := oi hy11
     exact ⟨rfl, ⟨H18, rfl, h7, rfl, S⟩⟩
theorem strings_genSplit_ok {w0 : World} {H0 : Hp} (hw : Holds w0 H0) (hG : Tryz.Gl w0) (p_ppend : Str) (p_x1 : Str) (p_x2 : Int) (p_x3 : Int) {r : (List Str)} (h : strings_genSplit p_ppend p_x1 p_x2 p_x3 = some r) :
  Con Tryz.prog 284 [(str p_ppend), (str p_x1), (int p_x2), (int p_x3)] w0 H0 (fun H' v => Sl (α := Str) H' v r) := by
 refine Con.mk (N := 66) Tryz.func284 rfl rfl (by kernel_rfl) rfl ?_
 have S := St.start hw
 refine WP.s<|WP.g<|WL.a (.slice none 0 0) rfl<|WL.e<|WP.s<|WP.s<|WP.g<|WL.m (int p_x3) rfl<|WL.w (R.eql rfl rfl)<|WL.e ?_
 rcases condE h with ⟨hc1, h⟩ | ⟨hc1, h⟩
 ·refine WP.condT rfl hc1<|WP.s<|WP.g<|WL.a (.slice none 0 0) rfl<|WL.e ?_
  obtain rfl := oi h
  refine WP.ret (Out.one rfl S rfl ?_)
  exact Sl.nil
 ·refine WP.condF rfl hc1<|WP.skip<|WP.s<|WP.s<|WP.g<|WL.m (str p_x1) rfl<|WL.w (R.eqlS (a := p_x1) (b := []) rfl rfl)<|WL.e ?_
  rcases condE h with ⟨hc2, h⟩ | ⟨hc2, h⟩
  ·refine WP.condT rfl hc2<|WP.s<|WP.g<|WL.m (str p_ppend) rfl<|WL.m (int p_x3) rfl ?_
   cases h
  ·refine WP.condF rfl hc2<|WP.skip<|WP.s<|WP.s<|WP.g<|WL.m (int p_x3) rfl<|WL.w (R.lss rfl rfl)<|WL.e ?_
   obtain ⟨y_7, hj9, h⟩ := bindE h
   refine WP.cut (fun f w => ∃ (H3 : Hp), f 0 = (str p_ppend) ∧ f 1 = (str p_x1) ∧ f 2 = (int p_x2) ∧ f 3 = (int y_7) ∧ St w0 H0 w H3 []) ?_ ?_
   ·rcases condE hj9 with ⟨hc11, hj9⟩ | ⟨hc11, hj9⟩
    ·refine WP.condT rfl hc11<|WP.g<|WL.m (str p_ppend) rfl<|WL.m (str p_x1) rfl ?_
     obtain ⟨r12, hr12, hj9⟩ := bindE hj9
     refine W.call S rfl (strings_Count_ok S.holds (hG.post S.post) p_ppend p_x1 hr12) ?_
     rintro v13 w14 H15 hle16 S rfl
     refine WL.w (R.add rfl rfl)<|WL.a (int (wr (r12 + 1))) rfl<|WL.e ?_
     obtain rfl := oi hj9
     exact ⟨H15, rfl, rfl, rfl, rfl, S⟩
    ·refine WP.condF rfl hc11<|WP.skip ?_
     obtain rfl := oi hj9
     exact ⟨H0, rfl, rfl, rfl, rfl, S⟩
   ·rintro f w ⟨H3, h4, h5, h6, h8, S⟩
    refine WP.s<|WP.g<|WL.m (int y_7) h8<|WL.m (str p_ppend) h4<|WL.w (R.lenS (a := p_ppend) rfl Tryz.underlying9)<|WL.w (R.add rfl rfl)<|WL.w (R.min rfl rfl)<|WL.a (int (if (wr ((p_ppend.length : Int) + 1)) < y_7 then (wr ((p_ppend.length : Int) + 1)) else y_7)) rfl<|WL.e<|WP.s<|WP.g<|WL.m (int (if (wr ((p_ppend.length : Int) + 1)) < y_7 then (wr ((p_ppend.length : Int) + 1)) else y_7)) rfl ?_
    obtain ⟨l17, hl17, h⟩ := bindE h
    refine W.makeSlice (α := Str) (zv := (str [])) (z := []) S el23 rfl rfl rfl zer9 rfl hl17 ?_
    intro b18 w19 ms20 n21 hL22 R23 S
    refine WL.a (.slice (some ⟨b18, 0, none⟩) n21 n21) rfl<|WL.e<|WP.s<|WP.g<|WL.m (int (if (wr ((p_ppend.length : Int) + 1)) < y_7 then (wr ((p_ppend.length : Int) + 1)) else y_7)) rfl<|WL.w (R.sub rfl rfl)<|WL.a (int (wr ((if (wr ((p_ppend.length : Int) + 1)) < y_7 then (wr ((p_ppend.length : Int) + 1)) else y_7) - 1))) rfl<|WL.e<|WP.s<|WP.g<|WL.a (int 0) rfl<|WL.e ?_
    refine WP.s ?_
    obtain ⟨r50, hr51, h⟩ := bindE h
    refine WP.cut (fun f w => match r50 with | (ppend_38, y_41, m43) => ∃ (H37 : Hp) (ms44 : List Value), f 0 = (str ppend_38) ∧ f 9 = (.slice (some ⟨b18, 0, none⟩) n21 n21) ∧ f 10 = (int y_41) ∧ Ms (α := Str) H37 ms44 m43 ∧ m43.length = n21 ∧ St w0 H0 w H37 [.box b18 9 ms44]) ?_ ?_
    ·refine WP.block ?_
     refine WP.loopM (strings_genSplit_L0 p_ppend p_x1 p_x2 y_7) (fun s f w => match s with | (ppend_25, y_31, m33) => ∃ (H24 : Hp) (ms34 : List Value), f 0 = (str ppend_25) ∧ f 1 = (str p_x1) ∧ f 2 = (int p_x2) ∧ f 3 = (int (wr ((if (wr ((p_ppend.length : Int) + 1)) < y_7 then (wr ((p_ppend.length : Int) + 1)) else y_7) - 1))) ∧ f 9 = (.slice (some ⟨b18, 0, none⟩) n21 n21) ∧ f 10 = (int y_31) ∧ Ms (α := Str) H24 ms34 m33 ∧ m33.length = n21 ∧ St w0 H0 w H24 [.box b18 9 ms34]) (p_ppend, 0, l17) r50 hr51 ?_ ?_
     ·exact ⟨H3, ms20, h4, h5, h6, rfl, rfl, rfl, R23, hL22, S⟩
     ·intro s f w hI y47 hy48 hy49
      obtain ⟨ppend_25, y_31, m33⟩ := s
      obtain ⟨H24, ms34, h26, h27, h28, h29, h30, h32, R35, hL36, S⟩ := hI
      refine WP.s<|WP.s<|WP.g<|WL.m (int y_31) h32<|WL.m (int (wr ((if (wr ((p_ppend.length : Int) + 1)) < y_7 then (wr ((p_ppend.length : Int) + 1)) else y_7) - 1))) h29<|WL.w (R.lss rfl rfl)<|WL.e ?_
      rcases condE hy48 with ⟨hc52, hy48⟩ | ⟨hc52, hy48⟩
      ·refine WP.condT rfl hc52<|WP.skip<|WP.block<|WP.s<|WP.g<|WL.m (str ppend_25) h26<|WL.m (str p_x1) h27 ?_
       obtain ⟨r53, hr53, hy48⟩ := bindE hy48
       refine W.call S rfl (strings_Index_ok S.holds (hG.post S.post) ppend_25 p_x1 hr53) ?_
       rintro v54 w55 H56 hle57 S rfl
       have R35 := Ms.mono R35 hle57
       refine WL.a (int r53) rfl<|WL.e<|WP.s<|WP.s<|WP.g<|WL.m (int r53) rfl<|WL.w (R.lss rfl rfl)<|WL.e ?_
       rcases condE hy48 with ⟨hc58, hy48⟩ | ⟨hc58, hy48⟩
       ·refine WP.condT rfl hc58<|WP.exit ?_
        obtain rfl := oi hy48
        obtain rfl := hy49
        exact ⟨H56, ms34, h26, h30, h32, R35, hL36, S⟩
       ·refine WP.condF rfl hc58<|WP.skip<|WP.s<|WP.g<|WL.m (.slice (some ⟨b18, 0, none⟩) n21 n21) h30<|WL.m (int y_31) h32<|WL.m (str ppend_25) h26<|WL.m (int r53) rfl<|WL.m (int p_x2) h28<|WL.w (R.add rfl rfl) ?_
        obtain ⟨s59, hs59, hy48⟩ := bindE hy48
        refine WL.w (R.subShi rfl rfl Tryz.underlying9 hs59) ?_
        obtain ⟨x60, hx60, hy48⟩ := bindE hy48
        refine WL.w (R.idxM (α := Str) (xs := m33) rfl hL36 rfl el23 hx60) ?_
        obtain ⟨l61, hl61, hy48⟩ := bindE hy48
        refine W.storeM (α := Str) (i := 0) (m := y_31) S R35 rfl rfl rfl lay9 rfl rfl hl61 ?_
        intro w62 ms63 R64 S
        have hL65 := (xput_len hl61).1.trans hL36
        refine WL.e<|WP.s<|WP.g<|WL.m (str ppend_25) h26<|WL.m (int r53) rfl<|WL.m (str p_x1) h27<|WL.w (R.lenS (a := p_x1) rfl Tryz.underlying9)<|WL.w (R.add rfl rfl) ?_
        obtain ⟨s66, hs66, hy48⟩ := bindE hy48
        refine WL.w (R.subSlo rfl rfl Tryz.underlying9 hs66)<|WL.a (str s66) rfl<|WL.e<|WP.g<|WL.m (int y_31) h32<|WL.w (R.add rfl rfl)<|WL.a (int (wr (y_31 + 1))) rfl<|WL.e ?_
        obtain rfl := oi hy48
        exact ⟨rfl, ⟨H56, ms63, rfl, h27, h28, h29, h30, rfl, R64, hL65, S⟩⟩
      ·refine WP.condF rfl hc52<|WP.exit ?_
       obtain rfl := oi hy48
       obtain rfl := hy49
       exact ⟨H24, ms34, h26, h30, h32, R35, hL36, S⟩
    ·intro f w hM
     obtain ⟨ppend_38, y_41, m43⟩ := r50
     obtain ⟨H37, ms44, h39, h40, h42, R45, hL46, S⟩ := hM
     refine WP.s<|WP.g<|WL.m (.slice (some ⟨b18, 0, none⟩) n21 n21) h40<|WL.m (int y_41) h42<|WL.m (str ppend_38) h39 ?_
     obtain ⟨x67, hx67, h⟩ := bindE h
     refine WL.w (R.idxM (α := Str) (xs := m43) rfl hL46 rfl el23 hx67) ?_
     obtain ⟨l68, hl68, h⟩ := bindE h
     refine W.storeM (α := Str) (i := 0) (m := y_41) S R45 rfl rfl rfl lay9 rfl rfl hl68 ?_
     intro w69 ms70 R71 S
     have hL72 := (xput_len hl68).1.trans hL46
     refine WL.e<|WP.s<|WP.g<|WL.m (.slice (some ⟨b18, 0, none⟩) n21 n21) h40<|WL.m (int y_41) h42<|WL.w (R.add rfl rfl) ?_
     obtain ⟨H73, hle74, hs75, _, S⟩ := S.settle (i := 0) rfl
     replace S : St w0 H0 _ H73 [] := S
     have hA76 : At H73 ⟨b18, 0, none⟩ ms70 := ⟨_, _, rfl, hs75, [], by simp⟩
     have R71 := Ms.mono R71 hle74
     have R77 : Sl (α := Str) H73 (.slice (some ⟨b18, 0, none⟩) n21 n21) l68 := Ms.sl R71 hL72 hA76
     obtain ⟨l78, hl78, h⟩ := bindE h
     refine W.subHi (α := Str) R77 rfl rfl el23 hl78 ?_
     intro v79 R80
     refine WL.a (v79) rfl<|WL.e ?_
     obtain rfl := oi h
     refine WP.ret (Out.one rfl S rfl ?_)
     exact R80
theorem strings_Split_ok {w0 : World} {H0 : Hp} (hw : Holds w0 H0) (hG : Tryz.Gl w0) (p_s : Str) (p_sep : Str) {r : (List Str)} (h : strings_Split p_s p_sep = some r) :
  Con Tryz.prog 282 [(str p_s), (str p_sep)] w0 H0 (fun H' v => Sl (α := Str) H' v r) := by
 refine Con.mk (N := 8) Tryz.func282 rfl rfl (by kernel_rfl) rfl ?_
 have S := St.start hw
 refine WP.s<|WP.g<|WL.a (.slice none 0 0) rfl<|WL.e<|WP.s<|WP.g<|WL.m (str p_s) rfl<|WL.m (str p_sep) rfl ?_
 obtain ⟨r1, hr1, h⟩ := bindE h
 refine W.call S rfl (strings_genSplit_ok S.holds (hG.post S.post) p_s p_sep 0 (-1) hr1) ?_
 rintro v2 w3 H4 hle5 S R6
 refine WL.a (v2) rfl<|WL.e ?_
 obtain rfl := oi h
 refine WP.ret (Out.one rfl S rfl ?_)
 exact R6
theorem language_subtag_ok {w0 : World} {H0 : Hp} (hw : Holds w0 H0) (hG : Tryz.Gl w0) (p_s : Str) (p_digits : Bool) {r : Bool} (h : language_subtag p_s p_digits = some r) :
  Con Tryz.prog 283 [(str p_s), (boo p_digits)] w0 H0 (fun H' v => v = (boo r)) := by
 refine Con.mk (N := 41) Tryz.func283 rfl rfl (by kernel_rfl) rfl ?_
 have S := St.start hw
 refine WP.s<|WP.g<|WL.a (boo false) rfl<|WL.e<|WP.s<|WP.s<|WP.g<|WL.m (str p_s) rfl ?_
 obtain ⟨r1, hr1, h⟩ := bindE h
 refine W.call S rfl (ascii_Lower_ok S.holds (hG.post S.post) p_s hr1) ?_
 rintro v2 w3 H4 hle5 S rfl
 refine W.bytes (s := r1) S rfl Tryz.underlying9 Tryz.underlying130 Tryz.underlying5 ?_
 intro b6 c7 w8 hc7 S
 refine WL.w (R.lenV rfl Tryz.underlying130)<|WL.m (int 0) rfl<|WL.e ?_
 obtain ⟨r21, hr22, h⟩ := bindE h
 refine WP.cut (fun f w => match r21 with | .inl _ => ∃ (H16 : Hp), f 0 = (str p_s) ∧ St w0 H0 w H16 [] | .inr _ => False) ?_ ?_
 ·refine WP.block ?_
  refine WP.loopM (language_subtag_L0 p_digits r1) (fun s f w => match s with | y_14 => ∃ (H9 : Hp), f 0 = (str p_s) ∧ f 1 = (boo p_digits) ∧ f 9 = (.slice (some ⟨b6, 0, none⟩) r1.length c7) ∧ f 10 = (int (r1.length : Int)) ∧ f 11 = (int y_14) ∧ St w0 H0 w H9 [.box b6 5 (r1.map byt)]) 0 r21 hr22 ?_ ?_
  ·exact ⟨H4, rfl, rfl, rfl, rfl, rfl, S⟩
  ·intro y_14 f w hI y18 hy19 hy20
   obtain ⟨H9, h10, h11, h12, h13, h15, S⟩ := hI
   refine WP.s<|WP.g<|WL.w (R.lss h15 h13)<|WL.e<|WP.s ?_
   rcases condE hy19 with ⟨hc23, hy19⟩ | ⟨hc23, hy19⟩
   ·refine WP.condT rfl hc23<|WP.skip<|WP.s<|WP.block<|WP.s<|WP.g ?_
    obtain ⟨c24, hc24, hy19⟩ := bindE hy19
    have hq25 := (map_byt_get hc24).2
    refine WL.w (R.idxB h12 h15 el130 (map_byt_get hc24).2) ?_
    obtain ⟨c26, hc26, hy19⟩ := bindE hy19
    refine WL.w (R.loadB (i := 0) S rfl rfl lay5 (map_byt_get hc26).1)<|WL.a (byt c26) rfl<|WL.e<|WP.s<|WP.g<|WL.m (byt c26) rfl<|WL.w (R.lss8 (a := c26) (b := 97) rfl rfl)<|WL.m (boo (decide (c26 < 97))) rfl ?_
    refine WL.grp 3 [18, 19] 20 (boo ((decide (c26 < 97)) || (decide (122 < c26)))) ?_ ?_
    ·rcases boolE (decide (c26 < 97)) with hb27 | hb27
     ·refine WL.n rfl rfl hb27<|WL.n rfl rfl hb27<|WL.w (R.pickT rfl hb27 rfl) ?_
      exact WL.e ⟨(orT hb27), ag, rfl⟩
     ·refine WL.y rfl rfl hb27<|WL.m (byt c26) rfl<|WL.y rfl rfl hb27<|WL.w (R.gtr8 (a := c26) (b := 122) rfl rfl)<|WL.w (R.pickF rfl hb27 rfl) ?_
      exact WL.e ⟨(orF hb27), ag, rfl⟩
    ·intro us
     refine WL.m (boo ((decide (c26 < 97)) || (decide (122 < c26)))) rfl ?_
     refine WL.grp 11 [22, 23, 24, 25, 26, 27, 28, 29, 30, 31] 32 (boo (((decide (c26 < 97)) || (decide (122 < c26))) && (((!p_digits) || (decide (c26 < 48))) || (decide (57 < c26))))) ?_ ?_
     ·rcases boolE ((decide (c26 < 97)) || (decide (122 < c26))) with hb29 | hb29
      ·refine WL.y rfl rfl hb29<|WL.m (boo p_digits) h11<|WL.y rfl rfl hb29<|WL.w (R.not rfl)<|WL.y rfl rfl hb29<|WL.m (boo (!p_digits)) rfl ?_
       refine WL.grp 3 [25, 26] 27 (boo ((!p_digits) || (decide (c26 < 48)))) ?_ ?_
       ·rcases boolE (!p_digits) with hb31 | hb31
        ·refine WL.n rfl rfl hb31<|WL.n rfl rfl hb31<|WL.y rfl rfl hb29<|WL.w (R.pickT rfl hb31 rfl) ?_
         exact WL.e ⟨(orT hb31), ag, rfl⟩
        ·refine WL.y rfl rfl hb31<|WL.m (byt c26) rfl<|WL.y rfl rfl hb31<|WL.w (R.lss8 (a := c26) (b := 48) rfl rfl)<|WL.y rfl rfl hb29<|WL.w (R.pickF rfl hb31 rfl) ?_
         exact WL.e ⟨(orF hb31), ag, rfl⟩
       ·intro us
        refine WL.y rfl rfl hb29<|WL.m (boo ((!p_digits) || (decide (c26 < 48)))) rfl ?_
        refine WL.grp 3 [29, 30] 31 (boo (((!p_digits) || (decide (c26 < 48))) || (decide (57 < c26)))) ?_ ?_
        ·rcases boolE ((!p_digits) || (decide (c26 < 48))) with hb33 | hb33
         ·refine WL.n rfl rfl hb33<|WL.n rfl rfl hb33<|WL.y rfl rfl hb29<|WL.w (R.pickT rfl hb33 rfl) ?_
          exact WL.e ⟨(orT hb33), ag, rfl⟩
         ·refine WL.y rfl rfl hb33<|WL.m (byt c26) rfl<|WL.y rfl rfl hb33<|WL.w (R.gtr8 (a := c26) (b := 57) rfl rfl)<|WL.y rfl rfl hb29<|WL.w (R.pickF rfl hb33 rfl) ?_
          exact WL.e ⟨(orF hb33), ag, rfl⟩
        ·intro us
         refine WL.w (R.pickT rfl hb29 rfl) ?_
         exact WL.e ⟨(andT hb29), ag, rfl⟩
      ·refine WL.n rfl rfl hb29<|WL.n rfl rfl hb29<|WL.n rfl rfl hb29<|WL.gund rfl rfl<|WL.gund rfl rfl<|WL.n rfl rfl hb29<|WL.n rfl rfl hb29<|WL.gund rfl rfl<|WL.gund rfl rfl<|WL.n rfl rfl hb29<|WL.w (R.pickF rfl hb29 rfl) ?_
       exact WL.e ⟨(andF hb29), ag, rfl⟩
     ·intro us
      refine WL.e ?_
      rcases condE hy19 with ⟨hc35, hy19⟩ | ⟨hc35, hy19⟩
      ·refine WP.condT rfl hc35<|WP.s<|WP.g<|WL.a (boo false) rfl<|WL.e ?_
       obtain rfl := oi hy19
       obtain rfl := hy20
       obtain rfl := oi h
       refine WP.ret (Out.one rfl S rfl ?_)
       exact rfl
      ·refine WP.condF rfl hc35<|WP.skip<|WP.g<|WL.w (R.add h15 rfl)<|WL.m (int (wr (y_14 + 1))) rfl<|WL.e ?_
       obtain rfl := oi hy19
       exact ⟨rfl, ⟨H9, h10, h11, h12, h13, rfl, S⟩⟩
   ·refine WP.condF rfl hc23<|WP.exit ?_
    obtain rfl := oi hy19
    obtain rfl := hy20
    exact ⟨H9, h10, (S.drop _ (.cons _ .slnil))⟩
 ·intro f w hM
  rcases r21 with _ | e
  ·obtain ⟨H16, h17, S⟩ := hM
   refine WP.s<|WP.g<|WL.m (str p_s) h17<|WL.w (R.neqS (a := p_s) (b := []) rfl rfl)<|WL.m (boo (p_s != [])) rfl ?_
   refine WL.grp 4 [37, 38, 39] 40 (boo ((p_s != []) && (decide ((p_s.length : Int) ≤ 8)))) ?_ ?_
   ·rcases boolE (p_s != []) with hb36 | hb36
    ·refine WL.y rfl rfl hb36<|WL.m (str p_s) h17<|WL.y rfl rfl hb36<|WL.w (R.lenS (a := p_s) rfl Tryz.underlying9)<|WL.y rfl rfl hb36<|WL.w (R.leq rfl rfl)<|WL.w (R.pickT rfl hb36 rfl) ?_
     exact WL.e ⟨(andT hb36), ag, rfl⟩
    ·refine WL.n rfl rfl hb36<|WL.n rfl rfl hb36<|WL.n rfl rfl hb36<|WL.w (R.pickF rfl hb36 rfl) ?_
     exact WL.e ⟨(andF hb36), ag, rfl⟩
   ·intro us
    refine WL.a (boo ((p_s != []) && (decide ((p_s.length : Int) ≤ 8)))) rfl<|WL.e ?_
    obtain rfl := oi h
    refine WP.ret (Out.one rfl S rfl ?_)
    exact rfl
  ·exact hM.elim
theorem language_Tag_ok {w0 : World} {H0 : Hp} (hw : Holds w0 H0) (hG : Tryz.Gl w0) (p_s : Str) {r : Bool} (h : language_Tag p_s = some r) :
  Con Tryz.prog 281 [(str p_s)] w0 H0 (fun H' v => v = (boo r)) := by
 refine Con.mk (N := 19) Tryz.func281 rfl rfl (by kernel_rfl) rfl ?_
 have S := St.start hw
 refine WP.s<|WP.g<|WL.a (boo false) rfl<|WL.e<|WP.s<|WP.s<|WP.g<|WL.m (str p_s) rfl ?_
 obtain ⟨r1, hr1, h⟩ := bindE h
 refine W.call S rfl (strings_Split_ok S.holds (hG.post S.post) p_s [45] hr1) ?_
 rintro v2 w3 H4 hle5 S R6
 refine WL.w (R.lenL (α := Str) (xs := r1) (H := H4) R6 rfl Tryz.underlying23)<|WL.m (int 0) rfl<|WL.e ?_
 obtain ⟨r16, hr17, h⟩ := bindE h
 refine WP.cut (fun f w => match r16 with | .inl _ => ∃ (H12 : Hp), St w0 H0 w H12 [] | .inr _ => False) ?_ ?_
 ·refine WP.block ?_
  refine WP.loopM (language_Tag_L0 r1) (fun s f w => match s with | y_10 => ∃ (H7 : Hp), f 6 = v2 ∧ f 7 = (int (r1.length : Int)) ∧ f 8 = (int y_10) ∧ Sl (α := Str) H7 v2 r1 ∧ St w0 H0 w H7 []) 0 r16 hr17 ?_ ?_
  ·exact ⟨H4, rfl, rfl, rfl, R6, S⟩
  ·intro y_10 f w hI y13 hy14 hy15
   obtain ⟨H7, h8, h9, h11, R6, S⟩ := hI
   refine WP.s<|WP.g<|WL.w (R.lss h11 h9)<|WL.e<|WP.s ?_
   rcases condE hy14 with ⟨hc18, hy14⟩ | ⟨hc18, hy14⟩
   ·refine WP.condT rfl hc18<|WP.skip<|WP.s<|WP.block<|WP.s<|WP.g<|WL.m (int y_10) h11 ?_
    obtain ⟨x19, hx19, hy14⟩ := bindE hy14
    refine W.idx (α := Str) R6 h8 h11 el23 hx19 ?_
    rintro a20 _ hA21 rfl
    refine WL.w (R.loadH (v := str x19) S rfl hA21 lay9 rfl)<|WL.a (int y_10) rfl<|WL.a (str x19) rfl<|WL.e<|WP.s<|WP.g<|WL.m (str x19) rfl<|WL.m (int y_10) rfl<|WL.w (R.gtr rfl rfl) ?_
    obtain ⟨r22, hr22, hy14⟩ := bindE hy14
    refine W.call S rfl (language_subtag_ok S.holds (hG.post S.post) x19 (decide (0 < y_10)) hr22) ?_
    rintro v23 w24 H25 hle26 S rfl
    have R6 := Sl.mono R6 hle26
    refine WL.w (R.not rfl)<|WL.e ?_
    rcases condE hy14 with ⟨hc27, hy14⟩ | ⟨hc27, hy14⟩
    ·refine WP.condT rfl hc27<|WP.s<|WP.g<|WL.a (boo false) rfl<|WL.e ?_
     obtain rfl := oi hy14
     obtain rfl := hy15
     obtain rfl := oi h
     refine WP.ret (Out.one rfl S rfl ?_)
     exact rfl
    ·refine WP.condF rfl hc27<|WP.skip<|WP.g<|WL.w (R.add h11 rfl)<|WL.m (int (wr (y_10 + 1))) rfl<|WL.e ?_
     obtain rfl := oi hy14
     exact ⟨rfl, ⟨H25, h8, h9, rfl, R6, S⟩⟩
   ·refine WP.condF rfl hc18<|WP.exit ?_
    obtain rfl := oi hy14
    obtain rfl := hy15
    exact ⟨H7, S⟩
 ·intro f w hM
  rcases r16 with _ | e
  ·obtain ⟨H12, S⟩ := hM
   refine WP.s<|WP.g<|WL.a (boo true) rfl<|WL.e ?_
   obtain rfl := oi h
   refine WP.ret (Out.one rfl S rfl ?_)
   exact rfl
  ·exact hM.elim
theorem variants_tags_form_ok {w0 : World} {H0 : Hp} (hw : Holds w0 H0) (hG : Tryz.Gl w0) (p_x0 : Unit) (p_s : Str) {r : (Str × Bool)} (h : variants_tags_form p_x0 p_s = some r) :
  Con Tryz.prog 280 [(agg []), (str p_s)] w0 H0 (fun H' v => v = (.tuple ⟨[(str r.1), (boo r.2)]⟩)) := by
 refine Con.mk (N := 10) Tryz.func280 rfl rfl (by kernel_rfl) rfl ?_
 have S := St.start hw
 refine WP.s<|WP.g<|W.box [] S rfl rfl ?_
 intro b1 w2 S
 refine WL.a (str []) rfl<|WL.a (boo false) rfl<|WL.e<|WP.s<|WP.g<|WL.m (str p_s) rfl ?_
 obtain ⟨r3, hr3, h⟩ := bindE h
 refine W.call S rfl (ascii_Lower_ok S.holds (hG.post S.post) p_s hr3) ?_
 rintro v4 w5 H6 hle7 S rfl
 refine WL.m (str p_s) rfl ?_
 obtain ⟨r8, hr8, h⟩ := bindE h
 refine W.call S rfl (language_Tag_ok S.holds (hG.post S.post) p_s hr8) ?_
 rintro v9 w10 H11 hle12 S rfl
 refine WL.a (str r3) rfl<|WL.a (boo r8) rfl<|WL.e ?_
 obtain rfl := oi h
 refine WP.ret (Out.two rfl S rfl rfl ?_)
 exact rfl
theorem coding_Canonical_ok {w0 : World} {H0 : Hp} (hw : Holds w0 H0) (hG : Tryz.Gl w0) (p_kind : Int) (p_s : Str) {r : Str} (h : coding_Canonical p_kind p_s = some r) :
  Con Tryz.prog 290 [(int p_kind), (str p_s)] w0 H0 (fun H' v => v = (str r)) := by
 refine Con.mk (N := 18) Tryz.func290 rfl rfl (by kernel_rfl) rfl ?_
 have S := St.start hw
 refine WP.s<|WP.g<|WL.a (str []) rfl<|WL.e<|WP.s<|WP.g<|WL.m (str p_s) rfl ?_
 obtain ⟨r1, hr1, h⟩ := bindE h
 refine W.call S rfl (ascii_Lower_ok S.holds (hG.post S.post) p_s hr1) ?_
 rintro v2 w3 H4 hle5 S rfl
 refine WL.a (str r1) rfl<|WL.e<|WP.s<|WP.s<|WP.g<|WL.m (int p_kind) rfl<|WL.w (R.neq rfl rfl)<|WL.e ?_
 rcases condE h with ⟨hc6, h⟩ | ⟨hc6, h⟩
 ·refine WP.condT rfl hc6<|WP.s<|WP.g<|WL.m (str r1) rfl<|WL.a (str r1) rfl<|WL.e ?_
  obtain rfl := oi h
  refine WP.ret (Out.one rfl S rfl ?_)
  exact rfl
 ·refine WP.condF rfl hc6<|WP.skip<|WP.s<|WP.s<|WP.g<|WL.m (str r1) rfl<|WL.e ?_
  obtain ⟨j10, hj9, h⟩ := bindE h
  refine WP.cut (fun f w => match j10 with | .inl _ => ∃ (H7 : Hp), f 1 = (str r1) ∧ St w0 H0 w H7 [] | .inr _ => False) ?_ ?_
  ·refine WP.block<|WP.s<|WP.s<|WP.g<|WL.w (R.eqlS (a := r1) (b := [103, 122, 105, 112]) rfl rfl)<|WL.a (boo (r1 == [103, 122, 105, 112])) rfl<|WL.e ?_
   obtain ⟨y_14, hj16, hj9⟩ := bindE hj9
   refine WP.cut (fun f w => ∃ (H11 : Hp), f 1 = (str r1) ∧ f 10 = (str r1) ∧ f 11 = (boo y_14) ∧ St w0 H0 w H11 []) ?_ ?_
   ·rcases condE hj16 with ⟨hc18, hj16⟩ | ⟨hc18, hj16⟩
    ·refine WP.condT rfl hc18<|WP.skip ?_
     obtain rfl := oi hj16
     exact ⟨H4, rfl, rfl, rfl, S⟩
    ·refine WP.condF rfl hc18<|WP.g<|WL.w (R.eqlS (a := r1) (b := [120, 45, 103, 122, 105, 112]) rfl rfl)<|WL.a (boo (r1 == [120, 45, 103, 122, 105, 112])) rfl<|WL.e ?_
     obtain rfl := oi hj16
     exact ⟨H4, rfl, rfl, rfl, S⟩
   ·rintro f w ⟨H11, h12, h13, h15, S⟩
    rcases condE hj9 with ⟨hc19, hj9⟩ | ⟨hc19, hj9⟩
    ·refine WP.condT h15 hc19<|WP.s<|WP.g<|WL.a (str [103, 122, 105, 112]) rfl<|WL.e ?_
     obtain rfl := oi hj9
     obtain rfl := oi h
     refine WP.ret (Out.one rfl S rfl ?_)
     exact rfl
    ·refine WP.condF h15 hc19<|WP.s<|WP.s<|WP.g<|WL.w (R.eqlS (a := r1) (b := [99, 111, 109, 112, 114, 101, 115, 115]) h13 rfl)<|WL.a (boo (r1 == [99, 111, 109, 112, 114, 101, 115, 115])) rfl<|WL.e ?_
     obtain ⟨y_22, hj24, hj9⟩ := bindE hj9
     refine WP.cut (fun f w => ∃ (H20 : Hp), f 1 = (str r1) ∧ f 14 = (boo y_22) ∧ St w0 H0 w H20 []) ?_ ?_
     ·rcases condE hj24 with ⟨hc26, hj24⟩ | ⟨hc26, hj24⟩
      ·refine WP.condT rfl hc26<|WP.skip ?_
       obtain rfl := oi hj24
       exact ⟨H11, h12, rfl, S⟩
      ·refine WP.condF rfl hc26<|WP.g<|WL.w (R.eqlS (a := r1) (b := [120, 45, 99, 111, 109, 112, 114, 101, 115, 115]) h13 rfl)<|WL.a (boo (r1 == [120, 45, 99, 111, 109, 112, 114, 101, 115, 115])) rfl<|WL.e ?_
       obtain rfl := oi hj24
       exact ⟨H11, h12, rfl, S⟩
     ·rintro f w ⟨H20, h21, h23, S⟩
      rcases condE hj9 with ⟨hc27, hj9⟩ | ⟨hc27, hj9⟩
      ·refine WP.condT h23 hc27<|WP.s<|WP.g<|WL.a (str [99, 111, 109, 112, 114, 101, 115, 115]) rfl<|WL.e ?_
       obtain rfl := oi hj9
       obtain rfl := oi h
       refine WP.ret (Out.one rfl S rfl ?_)
       exact rfl
      ·refine WP.condF h23 hc27<|WP.skip ?_
       obtain rfl := oi hj9
       exact ⟨H20, h21, S⟩
  ·intro f w hM
   rcases j10 with _ | e
   ·obtain ⟨H7, h8, S⟩ := hM
    refine WP.s<|WP.g<|WL.m (str r1) h8<|WL.a (str r1) rfl<|WL.e ?_
    obtain rfl := oi h
    refine WP.ret (Out.one rfl S rfl ?_)
    exact rfl
   ·exact hM.elim
theorem variants_words_form_ok {w0 : World} {H0 : Hp} (hw : Holds w0 H0) (hG : Tryz.Gl w0) (p_kind : Int) (p_s : Str) {r : (Str × Bool)} (h : variants_words_form p_kind p_s = some r) :
  Con Tryz.prog 289 [(int p_kind), (str p_s)] w0 H0 (fun H' v => v = (.tuple ⟨[(str r.1), (boo r.2)]⟩)) := by
 refine Con.mk (N := 15) Tryz.func289 rfl rfl (by kernel_rfl) rfl ?_
 have S := St.start hw
 refine WP.s<|WP.g<|WL.a (str []) rfl<|WL.a (boo false) rfl<|WL.e<|WP.s<|WP.g<|WL.m (int p_kind) rfl<|WL.m (str p_s) rfl ?_
 obtain ⟨r1, hr1, h⟩ := bindE h
 refine W.call S rfl (coding_Canonical_ok S.holds (hG.post S.post) p_kind p_s hr1) ?_
 rintro v2 w3 H4 hle5 S rfl
 refine WL.m (str p_s) rfl ?_
 obtain ⟨r6, hr6, h⟩ := bindE h
 refine W.call S rfl (ascii_Token_ok S.holds (hG.post S.post) p_s hr6) ?_
 rintro v7 w8 H9 hle10 S rfl
 refine WL.m (boo r6) rfl ?_
 refine WL.grp 3 [12, 13] 14 (boo (r6 && (p_s != [42]))) ?_ ?_
 ·rcases boolE r6 with hb11 | hb11
  ·refine WL.y rfl rfl hb11<|WL.m (str p_s) rfl<|WL.y rfl rfl hb11<|WL.w (R.neqS (a := p_s) (b := [42]) rfl rfl)<|WL.w (R.pickT rfl hb11 rfl) ?_
   exact WL.e ⟨(andT hb11), ag, rfl⟩
  ·refine WL.n rfl rfl hb11<|WL.n rfl rfl hb11<|WL.w (R.pickF rfl hb11 rfl) ?_
   exact WL.e ⟨(andF hb11), ag, rfl⟩
 ·intro us
  refine WL.a (str r1) rfl<|WL.a (boo (r6 && (p_s != [42]))) rfl<|WL.e ?_
  obtain rfl := oi h
  refine WP.ret (Out.two rfl S rfl rfl ?_)
  exact rfl
theorem variants_texts_form_ok {w0 : World} {H0 : Hp} (hw : Holds w0 H0) (hG : Tryz.Gl w0) (p_x0 : Unit) (p_s : Str) {r : (Str × Bool)} (h : variants_texts_form p_x0 p_s = some r) :
  Con Tryz.prog 291 [(agg []), (str p_s)] w0 H0 (fun H' v => v = (.tuple ⟨[(str r.1), (boo r.2)]⟩)) := by
 refine Con.mk (N := 25) Tryz.func291 rfl rfl (by kernel_rfl) rfl ?_
 have S := St.start hw
 refine WP.s<|WP.g<|W.box [] S rfl rfl ?_
 intro b1 w2 S
 refine WL.a (str []) rfl<|WL.a (boo false) rfl<|WL.e<|WP.s<|WP.g<|WL.m (str p_s) rfl<|WL.m (str p_s) rfl<|WL.w (R.lenS (a := p_s) rfl Tryz.underlying9)<|WL.w (R.geq rfl rfl)<|WL.m (boo (decide (1 ≤ (p_s.length : Int)))) rfl ?_
 refine WL.grp 4 [11, 12, 13] 14 (boo ((decide (1 ≤ (p_s.length : Int))) && (decide ((p_s.length : Int) ≤ 100)))) ?_ ?_
 ·rcases boolE (decide (1 ≤ (p_s.length : Int))) with hb3 | hb3
  ·refine WL.y rfl rfl hb3<|WL.m (str p_s) rfl<|WL.y rfl rfl hb3<|WL.w (R.lenS (a := p_s) rfl Tryz.underlying9)<|WL.y rfl rfl hb3<|WL.w (R.leq rfl rfl)<|WL.w (R.pickT rfl hb3 rfl) ?_
   exact WL.e ⟨(andT hb3), ag, rfl⟩
  ·refine WL.n rfl rfl hb3<|WL.n rfl rfl hb3<|WL.n rfl rfl hb3<|WL.w (R.pickF rfl hb3 rfl) ?_
   exact WL.e ⟨(andF hb3), ag, rfl⟩
 ·intro us
  refine WL.m (boo ((decide (1 ≤ (p_s.length : Int))) && (decide ((p_s.length : Int) ≤ 100)))) rfl ?_
  obtain ⟨b12, hg6, h⟩ := bindE h
  refine WL.grpw 3 [16, 17] 18 (boo b12) (fun w => ∃ H' : Hp, H0.le H' ∧ St w0 H0 w H' [.box b1 206 []]) ?_ ?_
  ·rcases boolE ((decide (1 ≤ (p_s.length : Int))) && (decide ((p_s.length : Int) ≤ 100))) with hb5 | hb5
   ·replace hg6 := condT hg6 hb5
    refine WL.y rfl rfl hb5<|WL.m (str p_s) rfl<|WL.y rfl rfl hb5 ?_
    obtain ⟨r7, hr7, hg6⟩ := bindE hg6
    refine W.call S rfl (ascii_Text_ok S.holds (hG.post S.post) p_s hr7) ?_
    rintro v8 w9 H10 hle11 S rfl
    refine WL.w (R.pickT rfl hb5 rfl) ?_
    exact WL.e ⟨(congrArg boo (oi hg6)), ag, ⟨H10, hle11, S⟩⟩
   ·replace hg6 := condF hg6 hb5
    refine WL.n rfl rfl hb5<|WL.n rfl rfl hb5<|WL.w (R.pickF rfl hb5 rfl) ?_
    exact WL.e ⟨(congrArg boo (oi hg6)), ag, ⟨H0, (Hp.le.refl _), S⟩⟩
  ·intro us w14 ⟨H13, hle15, S⟩
   refine WL.m (boo b12) rfl ?_
   obtain ⟨b23, hg17, h⟩ := bindE h
   refine WL.grpw 5 [20, 21, 22, 23] 24 (boo b23) (fun w => ∃ H' : Hp, H13.le H' ∧ St w0 H0 w H' [.box b1 206 []]) ?_ ?_
   ·rcases boolE b12 with hb16 | hb16
    ·replace hg17 := condT hg17 hb16
     refine WL.y rfl rfl hb16<|WL.m (str p_s) rfl<|WL.y rfl rfl hb16 ?_
     obtain ⟨r18, hr18, hg17⟩ := bindE hg17
     refine W.call S rfl (ascii_Trim_ok S.holds (hG.post S.post) p_s hr18) ?_
     rintro v19 w20 H21 hle22 S rfl
     refine WL.y rfl rfl hb16<|WL.m (str p_s) rfl<|WL.y rfl rfl hb16<|WL.w (R.eqlS (a := r18) (b := p_s) rfl rfl)<|WL.w (R.pickT rfl hb16 rfl) ?_
     exact WL.e ⟨(congrArg boo (oi hg17)), ag, ⟨H21, hle22, S⟩⟩
    ·replace hg17 := condF hg17 hb16
     refine WL.n rfl rfl hb16<|WL.n rfl rfl hb16<|WL.n rfl rfl hb16<|WL.n rfl rfl hb16<|WL.w (R.pickF rfl hb16 rfl) ?_
     exact WL.e ⟨(congrArg boo (oi hg17)), ag, ⟨H13, (Hp.le.refl _), S⟩⟩
   ·intro us w25 ⟨H24, hle26, S⟩
    refine WL.a (str p_s) rfl<|WL.a (boo b23) rfl<|WL.e ?_
    obtain rfl := oi h
    refine WP.ret (Out.two rfl S rfl rfl ?_)
    exact rfl
theorem variants_domain_form_ok {w0 : World} {H0 : Hp} (hw : Holds w0 H0) (hG : Tryz.Gl w0) (x : Gvariants_domain) (p0 : Str) {r : (Str × Bool)} (h : variants_domain_form x p0 = some r) :
  ConI Tryz.prog "variantproxy/variants.form" (Tryz.vvariants_domain x) [(str p0)] w0 H0 (fun H' v => v = (.tuple ⟨[(str r.1), (boo r.2)]⟩)) := by
 cases x with
 | media => exact ConI.mk (fun w => by kernel_rfl) (variants_media_form_ok hw hG () p0 h)
 | tags => exact ConI.mk (fun w => by kernel_rfl) (variants_tags_form_ok hw hG () p0 h)
 | words n => exact ConI.mk (fun w => by kernel_rfl) (variants_words_form_ok hw hG n p0 h)
 | texts => exact ConI.mk (fun w => by kernel_rfl) (variants_texts_form_ok hw hG () p0 h)
theorem variants_valid_ok {w0 : World} {H0 : Hp} (hw : Holds w0 H0) (hG : Tryz.Gl w0) (p_a : GAxis) {vp_a1 : Value} (Rp_a1 : Sl (α := Str) H0 vp_a1 p_a.fValues) {r : Bool} (h : variants_valid p_a = some r) :
  Con Tryz.prog 135 [(agg [(str p_a.fName), vp_a1])] w0 H0 (fun H' v => v = (boo r)) := by
 refine Con.mk (N := 46) Tryz.func135 rfl rfl (by kernel_rfl) rfl ?_
 have S := St.start hw
 refine WP.s<|WP.g<|W.box [(str p_a.fName), vp_a1] S rfl rfl ?_
 intro b1 w2 S
 refine WL.a (boo false) rfl<|WL.e<|WP.s<|WP.s<|WP.g<|WL.w (R.fieldB rfl fld84_1)<|WL.w (R.loadB (i := 0) (v := vp_a1) S rfl rfl lay23 rfl)<|WL.w (R.lenL (α := Str) (xs := p_a.fValues) (H := H0) Rp_a1 rfl Tryz.underlying23)<|WL.w (R.lss rfl rfl)<|WL.m (boo (decide ((p_a.fValues.length : Int) < 1))) rfl ?_
 refine WL.grp 5 [14, 15, 16, 17] 18 (boo ((decide ((p_a.fValues.length : Int) < 1)) || (decide (16 < (p_a.fValues.length : Int))))) ?_ ?_
 ·rcases boolE (decide ((p_a.fValues.length : Int) < 1)) with hb3 | hb3
  ·refine WL.n rfl rfl hb3<|WL.n rfl rfl hb3<|WL.n rfl rfl hb3<|WL.n rfl rfl hb3<|WL.w (R.pickT rfl hb3 rfl) ?_
   exact WL.e ⟨(orT hb3), ag, rfl⟩
  ·refine WL.y rfl rfl hb3<|WL.w (R.fieldB rfl fld84_1)<|WL.y rfl rfl hb3<|WL.w (R.loadB (i := 0) (v := vp_a1) S rfl rfl lay23 rfl)<|WL.y rfl rfl hb3<|WL.w (R.lenL (α := Str) (xs := p_a.fValues) (H := H0) Rp_a1 rfl Tryz.underlying23)<|WL.y rfl rfl hb3<|WL.w (R.gtr rfl rfl)<|WL.w (R.pickF rfl hb3 rfl) ?_
   exact WL.e ⟨(orF hb3), ag, rfl⟩
 ·intro us
  refine WL.e ?_
  rcases condE h with ⟨hc5, h⟩ | ⟨hc5, h⟩
  ·refine WP.condT rfl hc5<|WP.s<|WP.g<|WL.a (boo false) rfl<|WL.e ?_
   obtain rfl := oi h
   refine WP.ret (Out.one rfl S rfl ?_)
   exact rfl
  ·refine WP.condF rfl hc5<|WP.skip<|WP.s<|WP.g<|WL.w (R.fieldB rfl fld84_0)<|WL.w (R.loadB (i := 0) (v := str p_a.fName) S rfl rfl lay9 rfl) ?_
   obtain ⟨r6, hr6, h⟩ := bindE h
   refine W.call S rfl (variants_domainOf_ok S.holds (hG.post S.post) p_a.fName hr6) ?_
   rintro v7 w8 H9 hle10 S rfl
   have Rp_a1 := Sl.mono Rp_a1 hle10
   refine WL.a (Tryz.vvariants_domain r6) rfl<|WL.e<|WP.s<|WP.g<|W.makeMap S ?_
   intro b11 w12 S
   refine WL.a (mapv b11) rfl<|WL.e<|WP.s<|WP.s<|WP.g<|WL.w (R.fieldB rfl fld84_1)<|WL.w (R.loadB (i := 1) (v := vp_a1) S rfl rfl lay23 rfl)<|WL.w (R.lenL (α := Str) (xs := p_a.fValues) (H := H9) Rp_a1 rfl Tryz.underlying23)<|WL.m (int 0) rfl<|WL.e ?_
   obtain ⟨r25, hr26, h⟩ := bindE h
   refine WP.cut (fun f w => match r25 with | .inl _ => ∃ (H21 : Hp), St w0 H0 w H21 [] | .inr _ => False) ?_ ?_
   ·refine WP.block ?_
    refine WP.loopM (variants_valid_L0 p_a r6) (fun s f w => match s with | (y_18, m20) => ∃ (H13 : Hp), f 3 = (Tryz.vvariants_domain r6) ∧ f 4 = (mapv b11) ∧ f 24 = vp_a1 ∧ f 25 = (int (p_a.fValues.length : Int)) ∧ f 26 = (int y_18) ∧ Sl (α := Str) H13 vp_a1 p_a.fValues ∧ St w0 H0 w H13 [.mp b11 (encm boo m20)]) (0, ([] : List (Str × Bool))) r25 hr26 ?_ ?_
    ·exact ⟨H9, rfl, rfl, rfl, rfl, rfl, Rp_a1, (S.drop _ (.cons_cons _ (.cons _ .slnil)))⟩
    ·intro s f w hI y22 hy23 hy24
     obtain ⟨y_18, m20⟩ := s
     obtain ⟨H13, h14, h15, h16, h17, h19, Rp_a1, S⟩ := hI
     refine WP.s<|WP.g<|WL.w (R.lss h19 h17)<|WL.e<|WP.s ?_
     rcases condE hy23 with ⟨hc27, hy23⟩ | ⟨hc27, hy23⟩
     ·refine WP.condT rfl hc27<|WP.skip<|WP.s<|WP.block<|WP.s<|WP.g ?_
      obtain ⟨x28, hx28, hy23⟩ := bindE hy23
      refine W.idx (α := Str) Rp_a1 h16 h19 el23 hx28 ?_
      rintro a29 _ hA30 rfl
      refine WL.w (R.loadH (v := str x28) S rfl hA30 lay9 rfl)<|WL.a (str x28) rfl<|WL.e<|WP.s<|WP.g<|WL.m (Tryz.vvariants_domain r6) h14<|WL.m (str x28) rfl ?_
      obtain ⟨r31, hr31, hy23⟩ := bindE hy23
      refine W.invoke S rfl rfl (variants_domain_form_ok S.holds (hG.post S.post) r6 x28 hr31) ?_
      rintro v32 w33 H34 hle35 S rfl
      have Rp_a1 := Sl.mono Rp_a1 hle35
      refine WL.m (.tuple ⟨[(str r31.1), (boo r31.2)]⟩) rfl<|WL.w (R.ext rfl rfl)<|WL.w (R.ext rfl rfl)<|WL.a (str r31.1) rfl<|WL.a (boo r31.2) rfl<|WL.e<|WP.s<|WP.s<|WP.g<|WL.m (boo r31.2) rfl<|WL.w (R.not rfl)<|WL.m (boo (!r31.2)) rfl ?_
      obtain ⟨b39, hg37, hy23⟩ := bindE hy23
      refine WL.grp 4 [39, 40, 41] 42 (boo b39) ?_ ?_
      ·rcases boolE (!r31.2) with hb36 | hb36
       ·replace hg37 := condT hg37 hb36
        refine WL.n rfl rfl hb36<|WL.n rfl rfl hb36<|WL.n rfl rfl hb36<|WL.w (R.pickT rfl hb36 rfl) ?_
        exact WL.e ⟨(congrArg boo (oi hg37)), ag, rfl⟩
       ·replace hg37 := condF hg37 hb36
        refine WL.y rfl rfl hb36<|WL.m (mapv b11) h15<|WL.y rfl rfl hb36<|WL.m (str r31.1) rfl<|WL.y rfl rfl hb36 ?_
        obtain ⟨g38, hg38, hg37⟩ := bindE hg37
        refine WL.w (v := boo g38.1) (R.ofEq (R.lookup1 boo (i := 0) (m := m20) (z := false) S rfl rfl rfl Tryz.underlying107 Tryz.underlying9 mz4 rfl) (by rw [oi hg38]))<|WL.w (R.pickF rfl hb36 rfl) ?_
        exact WL.e ⟨(congrArg boo (oi hg37)), ag, rfl⟩
      ·intro us
       refine WL.e ?_
       rcases condE hy23 with ⟨hc40, hy23⟩ | ⟨hc40, hy23⟩
       ·refine WP.condT rfl hc40<|WP.s<|WP.g<|WL.a (boo false) rfl<|WL.e ?_
        obtain rfl := oi hy23
        obtain rfl := hy24
        obtain rfl := oi h
        refine WP.ret (Out.one rfl S rfl ?_)
        exact rfl
       ·refine WP.condF rfl hc40<|WP.skip<|WP.g<|WL.m (mapv b11) h15<|WL.m (str r31.1) rfl<|W.mapUpdate boo (i := 0) (m := m20) true S rfl rfl rfl rfl rfl Tryz.underlying107 Tryz.underlying9 ?_
        intro w41 S
        refine WL.e<|WP.g<|WL.w (R.add h19 rfl)<|WL.m (int (wr (y_18 + 1))) rfl<|WL.e ?_
        obtain rfl := oi hy23
        exact ⟨rfl, ⟨H34, h14, h15, h16, h17, rfl, Rp_a1, S⟩⟩
     ·refine WP.condF rfl hc27<|WP.exit ?_
      obtain rfl := oi hy23
      obtain rfl := hy24
      exact ⟨H13, (S.drop _ (.cons _ .slnil))⟩
   ·intro f w hM
    rcases r25 with _ | e
    ·obtain ⟨H21, S⟩ := hM
     refine WP.s<|WP.g<|WL.a (boo true) rfl<|WL.e ?_
     obtain rfl := oi h
     refine WP.ret (Out.one rfl S rfl ?_)
     exact rfl
    ·exact hM.elim
theorem variants_Valid_ok {w0 : World} {H0 : Hp} (hw : Holds w0 H0) (hG : Tryz.Gl w0) (p_l : (List GAxis)) {vp_l : Value} (Rp_l : Sl (α := GAxis) H0 vp_l p_l) {r : Bool} (h : variants_Valid p_l = some r) :
  Con Tryz.prog 89 [vp_l] w0 H0 (fun H' v => v = (boo r)) := by
 refine Con.mk (N := 54) Tryz.func89 rfl rfl (by kernel_rfl) rfl ?_
 have S := St.start hw
 refine WP.s<|WP.g<|WL.a (boo false) rfl<|WL.e<|WP.s<|WP.s<|WP.g<|WL.m (vp_l) rfl<|WL.w (R.lenL (α := GAxis) (xs := p_l) (H := H0) Rp_l rfl Tryz.underlying43)<|WL.w (R.lss rfl rfl)<|WL.m (boo (decide ((p_l.length : Int) < 1))) rfl ?_
 refine WL.grp 4 [11, 12, 13] 14 (boo ((decide ((p_l.length : Int) < 1)) || (decide (4 < (p_l.length : Int))))) ?_ ?_
 ·rcases boolE (decide ((p_l.length : Int) < 1)) with hb1 | hb1
  ·refine WL.n rfl rfl hb1<|WL.n rfl rfl hb1<|WL.n rfl rfl hb1<|WL.w (R.pickT rfl hb1 rfl) ?_
   exact WL.e ⟨(orT hb1), ag, rfl⟩
  ·refine WL.y rfl rfl hb1<|WL.m (vp_l) rfl<|WL.y rfl rfl hb1<|WL.w (R.lenL (α := GAxis) (xs := p_l) (H := H0) Rp_l rfl Tryz.underlying43)<|WL.y rfl rfl hb1<|WL.w (R.gtr rfl rfl)<|WL.w (R.pickF rfl hb1 rfl) ?_
   exact WL.e ⟨(orF hb1), ag, rfl⟩
 ·intro us
  refine WL.e ?_
  rcases condE h with ⟨hc3, h⟩ | ⟨hc3, h⟩
  ·refine WP.condT rfl hc3<|WP.s<|WP.g<|WL.a (boo false) rfl<|WL.e ?_
   obtain rfl := oi h
   refine WP.ret (Out.one rfl S rfl ?_)
   exact rfl
  ·refine WP.condF rfl hc3<|WP.skip<|WP.s<|WP.s<|WP.g<|WL.m (vp_l) rfl<|WL.w (R.lenL (α := GAxis) (xs := p_l) (H := H0) Rp_l rfl Tryz.underlying43)<|WL.m (int 0) rfl<|WL.e ?_
   obtain ⟨r14, hr15, h⟩ := bindE h
   refine WP.cut (fun f w => match r14 with | .inl _ => ∃ (H10 : Hp), St w0 H0 w H10 [] | .inr _ => False) ?_ ?_
   ·refine WP.block ?_
    refine WP.loopM (variants_Valid_L1 p_l) (fun s f w => match s with | y_8 => ∃ (H4 : Hp), f 0 = vp_l ∧ f 15 = vp_l ∧ f 16 = (int (p_l.length : Int)) ∧ f 17 = (int y_8) ∧ Sl (α := GAxis) H4 vp_l p_l ∧ St w0 H0 w H4 []) 0 r14 hr15 ?_ ?_
    ·exact ⟨H0, rfl, rfl, rfl, rfl, Rp_l, S⟩
    ·intro y_8 f w hI y11 hy12 hy13
     obtain ⟨H4, h5, h6, h7, h9, Rp_l, S⟩ := hI
     refine WP.s<|WP.g<|WL.w (R.lss h9 h7)<|WL.e<|WP.s ?_
     rcases condE hy12 with ⟨hc16, hy12⟩ | ⟨hc16, hy12⟩
     ·refine WP.condT rfl hc16<|WP.skip<|WP.s<|WP.block<|WP.s<|WP.g<|WL.m (int y_8) h9 ?_
      obtain ⟨x17, hx17, hy12⟩ := bindE hy12
      refine W.idx (α := GAxis) Rp_l h6 h9 el43 hx17 ?_
      rintro a18 _ hA19 ⟨v20, rfl, R21⟩
      refine WL.w (R.loadHN (vs := [(str x17.fName), v20]) S rfl hA19 lay84 rfl rfl)<|W.alloc [(str []), (.slice none 0 0)] S zer84 ?_
      intro b22 w23 S
      refine WL.a (int y_8) rfl<|W.store (i := 0) [(str x17.fName), v20] S rfl rfl rfl lay84 rfl (AllOne.all (l := [(str x17.fName), v20]) (.cons rfl (.cons (Sl.oneC R21) .nil))) (Nat.le_of_ble_eq_true rfl) rfl ?_
      intro w24 S
      refine WL.e<|WP.s<|WP.s<|WP.quiet S (by kernel_rfl) (by kernel_rfl)<|WQ.val (fun _ _ => (R.fieldB rfl fld84_0))<|WQ.val (fun w hw => by obtain ⟨_, hq, S⟩ := hw; exact (R.loadB (i := 0) (v := str x17.fName) S rfl rfl lay9 rfl)) ?_
      obtain ⟨r28, hr28, hy12⟩ := bindE hy12
      refine WQ.call (v := boo r28) rfl (fun w H' hq S => ascii_Token_ok S.holds (hG.post S.post) x17.fName hr28)<|WQ.val (fun _ _ => (R.not rfl))<|WQ.val (fun _ _ => (R.mv (v := boo (!r28)) rfl)) ?_
      obtain ⟨b40, hg34, hy12⟩ := bindE hy12
      refine WQ.grp 7 [27, 28, 29, 30, 31, 32] 33 (boo b40) ?_ ?_
      ·rcases boolE (!r28) with hb33 | hb33
       ·replace hg34 := condT hg34 hb33
        refine WQ.gno rfl rfl hb33<|WQ.gno rfl rfl hb33<|WQ.gno rfl rfl hb33<|WQ.gno rfl rfl hb33<|WQ.gno rfl rfl hb33<|WQ.gno rfl rfl hb33<|WQ.val (fun _ _ => (R.pickT rfl hb33 rfl)) ?_
        exact WQ.nil ⟨(congrArg boo (oi hg34)), ag⟩
       ·replace hg34 := condF hg34 hb33
        refine WQ.gyes rfl rfl hb33<|WQ.val (fun _ _ => (R.fieldB rfl fld84_0))<|WQ.gyes rfl rfl hb33<|WQ.val (fun w hw => by obtain ⟨_, hq, S⟩ := hw; exact (R.loadB (i := 0) (v := str x17.fName) S rfl rfl lay9 rfl))<|WQ.gyes rfl rfl hb33 ?_
        obtain ⟨r35, hr35, hg34⟩ := bindE hg34
        refine WQ.call (v := str r35) rfl (fun w H' hq S => ascii_Lower_ok S.holds (hG.post S.post) x17.fName hr35)<|WQ.gyes rfl rfl hb33<|WQ.val (fun _ _ => (R.fieldB rfl fld84_0))<|WQ.gyes rfl rfl hb33<|WQ.val (fun w hw => by obtain ⟨_, hq, S⟩ := hw; exact (R.loadB (i := 0) (v := str x17.fName) S rfl rfl lay9 rfl))<|WQ.gyes rfl rfl hb33<|WQ.val (fun _ _ => (R.neqS (a := r35) (b := x17.fName) rfl rfl))<|WQ.val (fun _ _ => (R.pickF rfl hb33 rfl)) ?_
        exact WQ.nil ⟨(congrArg boo (oi hg34)), ag⟩
      ·intro us
       refine WQ.val (fun _ _ => (R.mv (v := boo b40) rfl)) ?_
       obtain ⟨b48, hg42, hy12⟩ := bindE hy12
       refine WQ.grp 4 [35, 36, 37] 38 (boo b48) ?_ ?_
       ·rcases boolE b40 with hb41 | hb41
        ·replace hg42 := condT hg42 hb41
         refine WQ.gno rfl rfl hb41<|WQ.gno rfl rfl hb41<|WQ.gno rfl rfl hb41<|WQ.val (fun _ _ => (R.pickT rfl hb41 rfl)) ?_
         exact WQ.nil ⟨(congrArg boo (oi hg42)), ag⟩
        ·replace hg42 := condF hg42 hb41
         refine WQ.gyes rfl rfl hb41<|WQ.val (fun w hw => by obtain ⟨_, hq, S⟩ := hw; exact (R.loadBN (i := 0) (vs := [(str x17.fName), v20]) S rfl rfl lay84 rfl rfl))<|WQ.gyes rfl rfl hb41 ?_
         obtain ⟨r43, hr43, hg42⟩ := bindE hg42
         refine WQ.call (v := boo r43) rfl (fun w H' hq S => variants_valid_ok S.holds (hG.post S.post) x17 (Sl.mono R21 hq) hr43)<|WQ.gyes rfl rfl hb41<|WQ.val (fun _ _ => (R.not rfl))<|WQ.val (fun _ _ => (R.pickF rfl hb41 rfl)) ?_
         exact WQ.nil ⟨(congrArg boo (oi hg42)), ag⟩
       ·intro us
        refine WQ.nil ?_
        intro w25 H26 hle27 S
        have Rp_l := Sl.mono Rp_l hle27
        have R21 := Sl.mono R21 hle27
        rcases condE hy12 with ⟨hc49, hy12⟩ | ⟨hc49, hy12⟩
        ·refine WP.condT rfl hc49<|WP.s<|WP.g<|WL.a (boo false) rfl<|WL.e ?_
         obtain rfl := oi hy12
         obtain rfl := hy13
         obtain rfl := oi h
         refine WP.ret (Out.one rfl S rfl ?_)
         exact rfl
        ·refine WP.condF rfl hc49<|WP.skip<|WP.s<|WP.g<|WL.m (vp_l) h5<|WL.m (int y_8) rfl ?_
         obtain ⟨l50, hl50, hy12⟩ := bindE hy12
         refine W.subHi (α := GAxis) Rp_l rfl rfl el43 hl50 ?_
         intro v51 R52
         refine WL.w (R.lenL (α := GAxis) (xs := l50) (H := H26) R52 rfl Tryz.underlying43)<|WL.m (int 0) rfl<|WL.e ?_
         obtain ⟨r71, hr72, hy12⟩ := bindE hy12
         refine WP.cut (fun f w => match r71 with | .inl _ => ∃ (H63 : Hp), f 0 = vp_l ∧ f 15 = vp_l ∧ f 16 = (int (p_l.length : Int)) ∧ f 17 = (int y_8) ∧ Sl (α := GAxis) H63 vp_l p_l ∧ St w0 H0 w H63 [] | .inr _ => False) ?_ ?_
         ·refine WP.block ?_
          refine WP.loopM (variants_Valid_L0 x17 l50) (fun s f w => match s with | y_61 => ∃ (H53 : Hp), f 0 = vp_l ∧ f 4 = (ptr b22 0) ∧ f 15 = vp_l ∧ f 16 = (int (p_l.length : Int)) ∧ f 17 = (int y_8) ∧ f 41 = v51 ∧ f 42 = (int (l50.length : Int)) ∧ f 43 = (int y_61) ∧ Sl (α := GAxis) H53 vp_l p_l ∧ Sl (α := GAxis) H53 v51 l50 ∧ Sl (α := Str) H53 v20 x17.fValues ∧ St w0 H0 w H53 [.box b22 84 [(str x17.fName), v20]]) 0 r71 hr72 ?_ ?_
          ·exact ⟨H26, h5, rfl, h6, h7, h9, rfl, rfl, rfl, Rp_l, R52, R21, S⟩
          ·intro y_61 f w hI y68 hy69 hy70
           obtain ⟨H53, h54, h55, h56, h57, h58, h59, h60, h62, Rp_l, R52, R21, S⟩ := hI
           refine WP.s<|WP.g<|WL.w (R.lss h62 h60)<|WL.e<|WP.s ?_
           rcases condE hy69 with ⟨hc73, hy69⟩ | ⟨hc73, hy69⟩
           ·refine WP.condT rfl hc73<|WP.skip<|WP.s<|WP.block<|WP.s<|WP.g ?_
            obtain ⟨x74, hx74, hy69⟩ := bindE hy69
            refine W.idx (α := GAxis) R52 h59 h62 el43 hx74 ?_
            rintro a75 _ hA76 ⟨v77, rfl, R78⟩
            refine WL.w (R.loadHN (vs := [(str x74.fName), v77]) S rfl hA76 lay84 rfl rfl)<|W.alloc [(str []), (.slice none 0 0)] S zer84 ?_
            intro b79 w80 S
            refine W.store (i := 0) [(str x74.fName), v77] S rfl rfl rfl lay84 rfl (AllOne.all (l := [(str x74.fName), v77]) (.cons rfl (.cons (Sl.oneC R78) .nil))) (Nat.le_of_ble_eq_true rfl) rfl ?_
            intro w81 S
            refine WL.e<|WP.s<|WP.g<|WL.w (R.fieldB h55 fld84_0)<|WL.w (R.loadB (i := 1) (v := str x17.fName) S rfl rfl lay9 rfl)<|WL.w (R.fieldB rfl fld84_0)<|WL.w (R.loadB (i := 0) (v := str x74.fName) S rfl rfl lay9 rfl)<|WL.w (R.eqlS (a := x17.fName) (b := x74.fName) rfl rfl)<|WL.e ?_
            rcases condE hy69 with ⟨hc82, hy69⟩ | ⟨hc82, hy69⟩
            ·refine WP.condT rfl hc82<|WP.s<|WP.g<|WL.a (boo false) rfl<|WL.e ?_
             obtain rfl := oi hy69
             obtain rfl := hy70
             obtain rfl := oi hy12
             obtain rfl := hy13
             obtain rfl := oi h
             refine WP.ret (Out.one rfl S rfl ?_)
             exact rfl
            ·refine WP.condF rfl hc82<|WP.skip<|WP.g<|WL.w (R.add h62 rfl)<|WL.m (int (wr (y_61 + 1))) rfl<|WL.e ?_
             obtain rfl := oi hy69
             exact ⟨rfl, ⟨H53, h54, h55, h56, h57, h58, h59, h60, rfl, Rp_l, R52, R21, (S.drop _ (.cons _ (.cons_cons _ .slnil)))⟩⟩
           ·refine WP.condF rfl hc73<|WP.exit ?_
            obtain rfl := oi hy69
            obtain rfl := hy70
            exact ⟨H53, h54, h56, h57, h58, Rp_l, (S.drop _ (.cons _ .slnil))⟩
         ·intro f w hM
          rcases r71 with _ | e
          ·obtain ⟨H63, h64, h65, h66, h67, Rp_l, S⟩ := hM
           refine WP.g<|WL.w (R.add h67 rfl)<|WL.m (int (wr (y_8 + 1))) rfl<|WL.e ?_
           obtain rfl := oi hy12
           exact ⟨rfl, ⟨H63, h64, h65, h66, rfl, Rp_l, S⟩⟩
          ·exact hM.elim
     ·refine WP.condF rfl hc16<|WP.exit ?_
      obtain rfl := oi hy12
      obtain rfl := hy13
      exact ⟨H4, S⟩
   ·intro f w hM
    rcases r14 with _ | e
    ·obtain ⟨H10, S⟩ := hM
     refine WP.s<|WP.g<|WL.a (boo true) rfl<|WL.e ?_
     obtain rfl := oi h
     refine WP.ret (Out.one rfl S rfl ?_)
     exact rfl
    ·exact hM.elim
end Go.Proofs
