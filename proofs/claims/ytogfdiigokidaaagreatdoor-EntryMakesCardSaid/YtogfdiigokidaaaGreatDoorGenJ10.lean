/- A part of the proof of laws of the seat: written by program over the translation. -/
import Derived.Test.YtogfdiigokidaaaGreatDoorEng31
import Derived.Test.YtogfdiigokidaaaGreatDoorGenJ9
namespace Go.Proofs
set_option maxHeartbeats 4000000
set_option maxRecDepth 10000
open Go.Eng Go.Eng.Pure
set_option linter.unusedVariables false
theorem ref10_ParseVariants_ok {w0 : World} {H0 : Hp} (hw : Holds w0 H0) (hG : Tryz.Gl w0) (p_ppend : (List GField)) {vp_ppend : Value} (Rp_ppend : Sl (α := GField) H0 vp_ppend p_ppend) {r : ((List GAxis) × Int)} (h : ref10_ParseVariants p_ppend = some r) :
  Con Tryz.prog 50 [vp_ppend] w0 H0 (fun H' v => ∃ u1 : Value, v = (.tuple ⟨[u1, (int r.2)]⟩) ∧ Sl (α := GAxis) H' u1 r.1) := by
 refine Con.mk (N := 67) Tryz.func50 rfl rfl (by kernel_rfl) rfl ?_
 have S := St.start hw
 refine WP.s<|WP.g<|WL.a (.slice none 0 0) rfl<|WL.a (int 0) rfl<|WL.e<|WP.s<|WP.s<|WP.g<|WL.m (vp_ppend) rfl ?_
 obtain ⟨r1, hr1, h⟩ := bindE h
 refine W.call S rfl (ref01_Has_ok S.holds (hG.post S.post) p_ppend [86, 97, 114, 105, 97, 110, 116, 115] Rp_ppend hr1) ?_
 rintro v2 w3 H4 hle5 S rfl
 have Rp_ppend := Sl.mono Rp_ppend hle5
 refine WL.w (R.not rfl)<|WL.e ?_
 rcases condE h with ⟨hc6, h⟩ | ⟨hc6, h⟩
 ·refine WP.condT rfl hc6<|WP.s<|WP.g<|WL.a (.slice none 0 0) rfl<|WL.a (int 12) rfl<|WL.e ?_
  obtain rfl := oi h
  refine WP.ret (Out.two rfl S rfl rfl ?_)
  exact ⟨_, rfl, Sl.nil⟩
 ·refine WP.condF rfl hc6<|WP.skip<|WP.s<|WP.g<|WL.m (vp_ppend) rfl ?_
  obtain ⟨r7, hr7, h⟩ := bindE h
  refine W.call S rfl (ref01_All_ok S.holds (hG.post S.post) p_ppend [86, 97, 114, 105, 97, 110, 116, 115] Rp_ppend hr7) ?_
  rintro v8 w9 H10 hle11 S R12
  refine WL.a (v8) rfl<|WL.e<|WP.s<|WP.g<|WL.a (.slice none 0 0) rfl<|WL.e<|WP.s<|WP.s<|WP.g<|WL.a (int 0) rfl<|WL.e ?_
  have S := S.addNil 84 2
  obtain ⟨r29, hr30, h⟩ := bindE h
  refine WP.cut (fun f w => match r29 with | .inl y_22 => ∃ (H21 : Hp) (v23 : Value), f 5 = v23 ∧ Sl (α := GAxis) H21 v23 y_22 ∧ St w0 H0 w H21 [.row v23 84 2 y_22.length] | .inr _ => False) ?_ ?_
  ·refine WP.block ?_
   refine WP.loopM (ref10_ParseVariants_L0 r7) (fun s f w => match s with | (y_15, y_19) => ∃ (H13 : Hp) (v16 : Value), f 4 = v8 ∧ f 5 = v16 ∧ f 6 = (int y_19) ∧ Sl (α := Str) H13 v8 r7 ∧ Sl (α := GAxis) H13 v16 y_15 ∧ St w0 H0 w H13 [.row v16 84 2 y_15.length]) (([] : List GAxis), 0) r29 hr30 ?_ ?_
   ·exact ⟨H10, .slice none 0 0, rfl, rfl, rfl, R12, Sl.nil, S⟩
   ·intro s f w hI y26 hy27 hy28
    obtain ⟨y_15, y_19⟩ := s
    obtain ⟨H13, v16, h14, h18, h20, R12, R17, S⟩ := hI
    refine WP.s<|WP.s<|WP.g<|WL.m (int y_19) h20<|WL.m (v8) h14<|WL.w (R.lenL (α := Str) (xs := r7) (H := H13) R12 rfl Tryz.underlying23)<|WL.w (R.lss rfl rfl)<|WL.e ?_
    rcases condE hy27 with ⟨hc31, hy27⟩ | ⟨hc31, hy27⟩
    ·refine WP.condT rfl hc31<|WP.skip<|WP.s<|WP.block<|WP.s<|WP.g<|WL.m (v8) h14<|WL.m (int y_19) h20 ?_
     obtain ⟨x32, hx32, hy27⟩ := bindE hy27
     refine W.idx (α := Str) R12 rfl rfl el23 hx32 ?_
     rintro a33 _ hA34 rfl
     refine WL.w (R.loadH (v := str x32) S rfl hA34 lay9 rfl) ?_
     obtain ⟨r35, hr35, hy27⟩ := bindE hy27
     refine W.call S rfl (ref01_Index_ok S.holds (hG.post S.post) x32 61 0 hr35) ?_
     rintro v36 w37 H38 hle39 S rfl
     have R12 := Sl.mono R12 hle39
     have R17 := Sl.mono R17 hle39
     refine WL.a (int r35) rfl<|WL.e<|WP.s<|WP.s<|WP.g<|WL.m (int r35) rfl<|WL.w (R.lss rfl rfl)<|WL.m (boo (decide (r35 < 0))) rfl ?_
     obtain ⟨b51, hg41, hy27⟩ := bindE hy27
     refine WL.grpw 9 [29, 30, 31, 32, 33, 34, 35, 36] 37 (boo b51) (fun w => ∃ H' : Hp, H38.le H' ∧ St w0 H0 w H' [.row v16 84 2 y_15.length]) ?_ ?_
     ·rcases boolE (decide (r35 < 0)) with hb40 | hb40
      ·replace hg41 := condT hg41 hb40
       refine WL.n rfl rfl hb40<|WL.n rfl rfl hb40<|WL.n rfl rfl hb40<|WL.n rfl rfl hb40<|WL.n rfl rfl hb40<|WL.n rfl rfl hb40<|WL.n rfl rfl hb40<|WL.n rfl rfl hb40<|WL.w (R.pickT rfl hb40 rfl) ?_
       exact WL.e ⟨(congrArg boo (oi hg41)), ag, ⟨H38, (Hp.le.refl _), S⟩⟩
      ·replace hg41 := condF hg41 hb40
       refine WL.y rfl rfl hb40<|WL.m (v8) h14<|WL.y rfl rfl hb40<|WL.m (int y_19) h20<|WL.y rfl rfl hb40 ?_
       obtain ⟨x42, hx42, hg41⟩ := bindE hg41
       refine W.idx (α := Str) R12 rfl rfl el23 hx42 ?_
       rintro a43 _ hA44 rfl
       refine WL.y rfl rfl hb40<|WL.w (R.loadH (v := str x42) S rfl hA44 lay9 rfl)<|WL.y rfl rfl hb40<|WL.m (int r35) rfl<|WL.y rfl rfl hb40 ?_
       obtain ⟨s45, hs45, hg41⟩ := bindE hg41
       refine WL.w (R.subShi rfl rfl Tryz.underlying9 hs45)<|WL.y rfl rfl hb40 ?_
       obtain ⟨r46, hr46, hg41⟩ := bindE hg41
       refine W.call S rfl (ref01_Token_ok S.holds (hG.post S.post) s45 hr46) ?_
       rintro v47 w48 H49 hle50 S rfl
       have R12 := Sl.mono R12 hle50
       have R17 := Sl.mono R17 hle50
       refine WL.y rfl rfl hb40<|WL.w (R.not rfl)<|WL.w (R.pickF rfl hb40 rfl) ?_
       exact WL.e ⟨(congrArg boo (oi hg41)), ag, ⟨H49, hle50, S⟩⟩
     ·intro us w53 ⟨H52, hle54, S⟩
      have R12 := Sl.mono R12 hle54
      have R17 := Sl.mono R17 hle54
      refine WL.e ?_
      rcases condE hy27 with ⟨hc55, hy27⟩ | ⟨hc55, hy27⟩
      ·refine WP.condT rfl hc55<|WP.s<|WP.g<|WL.a (.slice none 0 0) rfl<|WL.a (int 1) rfl<|WL.e ?_
       obtain rfl := oi hy27
       obtain rfl := hy28
       obtain rfl := oi h
       refine WP.ret (Out.two rfl S rfl rfl ?_)
       exact ⟨_, rfl, Sl.nil⟩
      ·refine WP.condF rfl hc55<|WP.skip<|WP.s<|WP.g<|WL.m (v8) h14<|WL.m (int y_19) h20 ?_
       obtain ⟨x56, hx56, hy27⟩ := bindE hy27
       refine W.idx (α := Str) R12 rfl rfl el23 hx56 ?_
       rintro a57 _ hA58 rfl
       refine WL.w (R.loadH (v := str x56) S rfl hA58 lay9 rfl)<|WL.m (int r35) rfl<|WL.w (R.add rfl rfl) ?_
       obtain ⟨s59, hs59, hy27⟩ := bindE hy27
       refine WL.w (R.subSlo rfl rfl Tryz.underlying9 hs59) ?_
       obtain ⟨r60, hr60, hy27⟩ := bindE hy27
       refine W.call S rfl (ref10_values_ok S.holds (hG.post S.post) s59 hr60) ?_
       rintro v61 w62 H63 hle64 S ⟨u65, rfl, R66⟩
       have R12 := Sl.mono R12 hle64
       have R17 := Sl.mono R17 hle64
       refine WL.m (.tuple ⟨[u65, (boo r60.2)]⟩) rfl<|WL.w (R.ext rfl rfl)<|WL.w (R.ext rfl rfl)<|WL.a (u65) rfl<|WL.a (boo r60.2) rfl<|WL.e<|WP.s<|WP.s<|WP.g<|WL.m (boo r60.2) rfl<|WL.w (R.not rfl)<|WL.e ?_
       rcases condE hy27 with ⟨hc67, hy27⟩ | ⟨hc67, hy27⟩
       ·refine WP.condT rfl hc67<|WP.s<|WP.g<|WL.a (.slice none 0 0) rfl<|WL.a (int 1) rfl<|WL.e ?_
        obtain rfl := oi hy27
        obtain rfl := hy28
        obtain rfl := oi h
        refine WP.ret (Out.two rfl S rfl rfl ?_)
        exact ⟨_, rfl, Sl.nil⟩
       ·refine WP.condF rfl hc67<|WP.skip<|WP.g<|WL.m (v16) h18<|WL.m (v8) h14<|WL.m (int y_19) h20 ?_
        obtain ⟨x68, hx68, hy27⟩ := bindE hy27
        refine W.idx (α := Str) R12 rfl rfl el23 hx68 ?_
        rintro a69 _ hA70 rfl
        refine WL.w (R.loadH (v := str x68) S rfl hA70 lay9 rfl)<|WL.m (int r35) rfl ?_
        obtain ⟨s71, hs71, hy27⟩ := bindE hy27
        refine WL.w (R.subShi rfl rfl Tryz.underlying9 hs71) ?_
        obtain ⟨r72, hr72, hy27⟩ := bindE hy27
        refine W.call S rfl (ref01_Lower_ok S.holds (hG.post S.post) s71 hr72) ?_
        rintro v73 w74 H75 hle76 S rfl
        have R12 := Sl.mono R12 hle76
        have R17 := Sl.mono R17 hle76
        have R66 := Sl.mono R66 hle76
        refine WL.m (u65) rfl<|WL.w (R.build [(0, (str r72)), (1, u65)] [(str r72), u65] bp84 zer84 rfl (by obtain ⟨_, _, rfl, _⟩ := R66; rfl))<|W.bslice (α := GAxis) [(agg [(str r72), u65])] ([(⟨r72, r60.1⟩ : GAxis)] : List GAxis) S el43 rfl rfl rfl (by decide) (Go.Eng.encS ⟨rfl, _, rfl, R66⟩ enc0) ?_
        intro u77 w78 H79 hle80 R81 S
        have R12 := Sl.mono R12 hle80
        have R17 := Sl.mono R17 hle80
        obtain ⟨l82, hl82, hy27⟩ := bindE hy27
        refine W.app (α := GAxis) (i := 1) S el43 rfl rfl rfl R17 R81 hl82 ?_
        intro v83 w84 H85 hle86 R87 S
        have R12 := Sl.mono R12 hle86
        have R17 := Sl.mono R17 hle86
        refine WL.a (v83) rfl<|WL.e<|WP.g<|WL.m (int y_19) h20<|WL.w (R.add rfl rfl)<|WL.a (int (wr (y_19 + 1))) rfl<|WL.e ?_
        obtain rfl := oi hy27
        exact ⟨rfl, ⟨H85, v83, h14, rfl, rfl, R12, R87, (S.drop _ (.cons _ (.cons_cons _ .slnil)))⟩⟩
    ·refine WP.condF rfl hc31<|WP.exit ?_
     obtain rfl := oi hy27
     obtain rfl := hy28
     exact ⟨H13, v16, h18, R17, S⟩
  ·intro f w hM
   rcases r29 with y_22 | e
   ·obtain ⟨H21, v23, h25, R24, S⟩ := hM
    refine WP.s<|WP.s<|WP.g<|WL.m (v23) h25 ?_
    obtain ⟨r88, hr88, h⟩ := bindE h
    refine W.call S rfl (ref10_Valid_ok S.holds (hG.post S.post) y_22 R24 hr88) ?_
    rintro v89 w90 H91 hle92 S rfl
    have R24 := Sl.mono R24 hle92
    refine WL.w (R.not rfl)<|WL.e ?_
    rcases condE h with ⟨hc93, h⟩ | ⟨hc93, h⟩
    ·refine WP.condT rfl hc93<|WP.s<|WP.g<|WL.a (.slice none 0 0) rfl<|WL.a (int 11) rfl<|WL.e ?_
     obtain rfl := oi h
     refine WP.ret (Out.two rfl S rfl rfl ?_)
     exact ⟨_, rfl, Sl.nil⟩
    ·refine WP.condF rfl hc93<|WP.skip<|WP.s<|WP.g<|WL.m (v23) h25<|WL.a (v23) rfl<|WL.a (int 0) rfl<|WL.e ?_
     obtain rfl := oi h
     refine WP.ret (Out.two rfl S rfl rfl ?_)
     exact ⟨_, rfl, R24⟩
   ·exact hM.elim
theorem ref10_SameStrings_ok {w0 : World} {H0 : Hp} (hw : Holds w0 H0) (hG : Tryz.Gl w0) (p_a : (List Str)) (p_b : (List Str)) {vp_a : Value} {vp_b : Value} (Rp_a : Sl (α := Str) H0 vp_a p_a) (Rp_b : Sl (α := Str) H0 vp_b p_b) {r : Bool} (h : ref10_SameStrings p_a p_b = some r) :
  Con Tryz.prog 55 [vp_a, vp_b] w0 H0 (fun H' v => v = (boo r)) := by
 refine Con.mk (N := 26) Tryz.func55 rfl rfl (by kernel_rfl) rfl ?_
 have S := St.start hw
 refine WP.s<|WP.g<|WL.a (boo false) rfl<|WL.e<|WP.s<|WP.s<|WP.g<|WL.m (vp_a) rfl<|WL.w (R.lenL (α := Str) (xs := p_a) (H := H0) Rp_a rfl Tryz.underlying23)<|WL.m (vp_b) rfl<|WL.w (R.lenL (α := Str) (xs := p_b) (H := H0) Rp_b rfl Tryz.underlying23)<|WL.w (R.neq rfl rfl) ?_
 refine WL.e ?_
 rcases condE h with ⟨hc1, h⟩ | ⟨hc1, h⟩
 ·refine WP.condT rfl hc1<|WP.s<|WP.g<|WL.a (boo false) rfl<|WL.e ?_
  obtain rfl := oi h
  refine WP.ret (Out.one rfl S rfl ?_)
  exact rfl
 ·refine WP.condF rfl hc1<|WP.skip<|WP.s<|WP.s<|WP.g<|WL.a (int 0) rfl<|WL.e ?_
  obtain ⟨r11, hr12, h⟩ := bindE h
  refine WP.cut (fun f w => match r11 with | .inl _ => ∃ (H7 : Hp), St w0 H0 w H7 [] | .inr _ => False) ?_ ?_
  ·refine WP.block ?_
   refine WP.loopM (ref10_SameStrings_L0 p_a p_b) (fun s f w => match s with | i_5 => ∃ (H2 : Hp), f 0 = vp_a ∧ f 1 = vp_b ∧ f 5 = (int i_5) ∧ Sl (α := Str) H2 vp_a p_a ∧ Sl (α := Str) H2 vp_b p_b ∧ St w0 H0 w H2 []) 0 r11 hr12 ?_ ?_
   ·exact ⟨H0, rfl, rfl, rfl, Rp_a, Rp_b, S⟩
   ·intro i_5 f w hI y8 hy9 hy10
    obtain ⟨H2, h3, h4, h6, Rp_a, Rp_b, S⟩ := hI
    refine WP.s<|WP.s<|WP.g<|WL.m (int i_5) h6<|WL.m (vp_a) h3<|WL.w (R.lenL (α := Str) (xs := p_a) (H := H2) Rp_a rfl Tryz.underlying23)<|WL.w (R.lss rfl rfl)<|WL.e ?_
    rcases condE hy9 with ⟨hc13, hy9⟩ | ⟨hc13, hy9⟩
    ·refine WP.condT rfl hc13<|WP.skip<|WP.s<|WP.block<|WP.s<|WP.quiet S (by kernel_rfl) (by kernel_rfl)<|WQ.val (fun _ _ => (R.mv (v := vp_a) h3))<|WQ.val (fun _ _ => (R.mv (v := int i_5) h6)) ?_
     obtain ⟨x17, hx17, hy9⟩ := bindE hy9
     refine WQ.idx (α := Str) Rp_a rfl rfl el23 hx17 ?_
     rintro a18 _ hA19 rfl
     refine WQ.val (fun w hw => by obtain ⟨_, hq, S⟩ := hw; exact (R.loadH (v := str x17) S rfl (At.mono hA19 hq (by simp)) lay9 rfl))<|WQ.val (fun _ _ => (R.mv (v := vp_b) h4))<|WQ.val (fun _ _ => (R.mv (v := int i_5) h6)) ?_
     obtain ⟨x20, hx20, hy9⟩ := bindE hy9
     refine WQ.idx (α := Str) Rp_b rfl rfl el23 hx20 ?_
     rintro a21 _ hA22 rfl
     refine WQ.val (fun w hw => by obtain ⟨_, hq, S⟩ := hw; exact (R.loadH (v := str x20) S rfl (At.mono hA22 hq (by simp)) lay9 rfl))<|WQ.val (fun _ _ => (R.neqS (a := x17) (b := x20) rfl rfl))<|WQ.nil ?_
     intro w14 H15 hle16 S
     have Rp_a := Sl.mono Rp_a hle16
     have Rp_b := Sl.mono Rp_b hle16
     rcases condE hy9 with ⟨hc23, hy9⟩ | ⟨hc23, hy9⟩
     ·refine WP.condT rfl hc23<|WP.s<|WP.g<|WL.a (boo false) rfl<|WL.e ?_
      obtain rfl := oi hy9
      obtain rfl := hy10
      obtain rfl := oi h
      refine WP.ret (Out.one rfl S rfl ?_)
      exact rfl
     ·refine WP.condF rfl hc23<|WP.skip<|WP.g<|WL.m (int i_5) h6<|WL.w (R.add rfl rfl)<|WL.a (int (wr (i_5 + 1))) rfl<|WL.e ?_
      obtain rfl := oi hy9
      exact ⟨rfl, ⟨H15, h3, h4, rfl, Rp_a, Rp_b, S⟩⟩
    ·refine WP.condF rfl hc13<|WP.exit ?_
     obtain rfl := oi hy9
     obtain rfl := hy10
     exact ⟨H2, S⟩
  ·intro f w hM
   rcases r11 with _ | e
   ·obtain ⟨H7, S⟩ := hM
    refine WP.s<|WP.g<|WL.a (boo true) rfl<|WL.e ?_
    obtain rfl := oi h
    refine WP.ret (Out.one rfl S rfl ?_)
    exact rfl
   ·exact hM.elim
theorem ref10_ParseKeys_ok {w0 : World} {H0 : Hp} (hw : Holds w0 H0) (hG : Tryz.Gl w0) (p_ppend : (List GField)) (p_x1 : (List GAxis)) {vp_ppend : Value} {vp_x1 : Value} (Rp_ppend : Sl (α := GField) H0 vp_ppend p_ppend) (Rp_x1 : Sl (α := GAxis) H0 vp_x1 p_x1) {r : ((List (List Str)) × Int)} (h : ref10_ParseKeys p_ppend p_x1 = some r) :
  Con Tryz.prog 51 [vp_ppend, vp_x1] w0 H0 (fun H' v => ∃ u1 : Value, v = (.tuple ⟨[u1, (int r.2)]⟩) ∧ Sl (α := (List Str)) H' u1 r.1) := by
 refine Con.mk (N := 134) Tryz.func51 rfl rfl (by kernel_rfl) rfl ?_
 have S := St.start hw
 refine WP.s<|WP.g<|WL.a (.slice none 0 0) rfl<|WL.a (int 0) rfl<|WL.e<|WP.s<|WP.s<|WP.g<|WL.m (vp_x1) rfl ?_
 obtain ⟨r1, hr1, h⟩ := bindE h
 refine W.call S rfl (ref10_Valid_ok S.holds (hG.post S.post) p_x1 Rp_x1 hr1) ?_
 rintro v2 w3 H4 hle5 S rfl
 have Rp_ppend := Sl.mono Rp_ppend hle5
 have Rp_x1 := Sl.mono Rp_x1 hle5
 refine WL.w (R.not rfl)<|WL.e ?_
 rcases condE h with ⟨hc6, h⟩ | ⟨hc6, h⟩
 ·refine WP.condT rfl hc6<|WP.s<|WP.g<|WL.a (.slice none 0 0) rfl<|WL.a (int 10) rfl<|WL.e ?_
  obtain rfl := oi h
  refine WP.ret (Out.two rfl S rfl rfl ?_)
  exact ⟨_, rfl, Sl.nil⟩
 ·refine WP.condF rfl hc6<|WP.skip<|WP.s<|WP.g<|WL.m (vp_ppend) rfl ?_
  obtain ⟨r7, hr7, h⟩ := bindE h
  refine W.call S rfl (ref01_All_ok S.holds (hG.post S.post) p_ppend [86, 97, 114, 105, 97, 110, 116, 45, 75, 101, 121] Rp_ppend hr7) ?_
  rintro v8 w9 H10 hle11 S R12
  have Rp_x1 := Sl.mono Rp_x1 hle11
  refine WL.a (v8) rfl<|WL.e<|WP.s<|WP.s<|WP.g<|WL.m (v8) rfl<|WL.w (R.lenL (α := Str) (xs := r7) (H := H10) R12 rfl Tryz.underlying23)<|WL.w (R.eql rfl rfl)<|WL.e ?_
  rcases condE h with ⟨hc13, h⟩ | ⟨hc13, h⟩
  ·refine WP.condT rfl hc13<|WP.s<|WP.g<|WL.a (.slice none 0 0) rfl<|WL.a (int 12) rfl<|WL.e ?_
   obtain rfl := oi h
   refine WP.ret (Out.two rfl S rfl rfl ?_)
   exact ⟨_, rfl, Sl.nil⟩
  ·refine WP.condF rfl hc13<|WP.skip<|WP.s<|WP.g<|WL.a (.slice none 0 0) rfl<|WL.e<|WP.s<|WP.s<|WP.g<|WL.a (int 0) rfl<|WL.e ?_
   have S := S.addNil 23 1
   obtain ⟨r32, hr33, h⟩ := bindE h
   refine WP.cut (fun f w => match r32 with | .inl y_25 => ∃ (H23 : Hp) (v26 : Value), f 1 = vp_x1 ∧ f 7 = v26 ∧ Sl (α := GAxis) H23 vp_x1 p_x1 ∧ Sl (α := (List Str)) H23 v26 y_25 ∧ St w0 H0 w H23 [.row v26 23 1 y_25.length] | .inr _ => False) ?_ ?_
   ·refine WP.block ?_
    refine WP.loopM (ref10_ParseKeys_L0 r7) (fun s f w => match s with | (y_17, y_21) => ∃ (H14 : Hp) (v18 : Value), f 1 = vp_x1 ∧ f 6 = v8 ∧ f 7 = v18 ∧ f 8 = (int y_21) ∧ Sl (α := GAxis) H14 vp_x1 p_x1 ∧ Sl (α := Str) H14 v8 r7 ∧ Sl (α := (List Str)) H14 v18 y_17 ∧ St w0 H0 w H14 [.row v18 23 1 y_17.length]) (([] : List (List Str)), 0) r32 hr33 ?_ ?_
    ·exact ⟨H10, .slice none 0 0, rfl, rfl, rfl, rfl, Rp_x1, R12, Sl.nil, S⟩
    ·intro s f w hI y29 hy30 hy31
     obtain ⟨y_17, y_21⟩ := s
     obtain ⟨H14, v18, h15, h16, h20, h22, Rp_x1, R12, R19, S⟩ := hI
     refine WP.s<|WP.s<|WP.g<|WL.m (int y_21) h22<|WL.m (v8) h16<|WL.w (R.lenL (α := Str) (xs := r7) (H := H14) R12 rfl Tryz.underlying23)<|WL.w (R.lss rfl rfl)<|WL.e ?_
     rcases condE hy30 with ⟨hc34, hy30⟩ | ⟨hc34, hy30⟩
     ·refine WP.condT rfl hc34<|WP.skip<|WP.s<|WP.block<|WP.s<|WP.g<|WL.m (v8) h16<|WL.m (int y_21) h22 ?_
      obtain ⟨x35, hx35, hy30⟩ := bindE hy30
      refine W.idx (α := Str) R12 rfl rfl el23 hx35 ?_
      rintro a36 _ hA37 rfl
      refine WL.w (R.loadH (v := str x35) S rfl hA37 lay9 rfl) ?_
      obtain ⟨r38, hr38, hy30⟩ := bindE hy30
      refine W.call S rfl (ref10_values_ok S.holds (hG.post S.post) x35 hr38) ?_
      rintro v39 w40 H41 hle42 S ⟨u43, rfl, R44⟩
      have Rp_x1 := Sl.mono Rp_x1 hle42
      have R12 := Sl.mono R12 hle42
      have R19 := Sl.mono R19 hle42
      refine WL.m (.tuple ⟨[u43, (boo r38.2)]⟩) rfl<|WL.w (R.ext rfl rfl)<|WL.w (R.ext rfl rfl)<|WL.a (u43) rfl<|WL.a (boo r38.2) rfl<|WL.e<|WP.s<|WP.s<|WP.g<|WL.m (boo r38.2) rfl<|WL.w (R.not rfl)<|WL.e ?_
      rcases condE hy30 with ⟨hc45, hy30⟩ | ⟨hc45, hy30⟩
      ·refine WP.condT rfl hc45<|WP.s<|WP.g<|WL.a (.slice none 0 0) rfl<|WL.a (int 1) rfl<|WL.e ?_
       obtain rfl := oi hy30
       obtain rfl := hy31
       obtain rfl := oi h
       refine WP.ret (Out.two rfl S rfl rfl ?_)
       exact ⟨_, rfl, Sl.nil⟩
      ·refine WP.condF rfl hc45<|WP.skip<|WP.g<|WL.m (v18) h20<|WL.m (u43) rfl<|W.bslice (α := (List Str)) [u43] ([r38.1] : List (List Str)) S el22 rfl rfl rfl (by decide) (Go.Eng.encS ⟨(by rw [Sl.cellsOne R44]; rfl), _, (by rw [Sl.cellsOne R44]), R44⟩ enc0) ?_
       intro u46 w47 H48 hle49 R50 S
       have Rp_x1 := Sl.mono Rp_x1 hle49
       have R12 := Sl.mono R12 hle49
       have R19 := Sl.mono R19 hle49
       obtain ⟨l51, hl51, hy30⟩ := bindE hy30
       refine W.app (α := (List Str)) (i := 1) S el22 rfl rfl rfl R19 R50 hl51 ?_
       intro v52 w53 H54 hle55 R56 S
       have Rp_x1 := Sl.mono Rp_x1 hle55
       have R12 := Sl.mono R12 hle55
       have R19 := Sl.mono R19 hle55
       refine WL.a (v52) rfl<|WL.e<|WP.g<|WL.m (int y_21) h22<|WL.w (R.add rfl rfl)<|WL.a (int (wr (y_21 + 1))) rfl<|WL.e ?_
       obtain rfl := oi hy30
       exact ⟨rfl, ⟨H54, v52, h15, h16, rfl, rfl, Rp_x1, R12, R56, (S.drop _ (.cons _ (.cons_cons _ .slnil)))⟩⟩
     ·refine WP.condF rfl hc34<|WP.exit ?_
      obtain rfl := oi hy30
      obtain rfl := hy31
      exact ⟨H14, v18, h15, h20, Rp_x1, R19, S⟩
   ·intro f w hM
    rcases r32 with y_25 | e
    ·obtain ⟨H23, v26, h24, h28, Rp_x1, R27, S⟩ := hM
     refine WP.s<|WP.g<|WL.a (.slice none 0 0) rfl<|WL.e<|WP.s<|WP.s<|WP.g<|WL.a (int 0) rfl<|WL.e ?_
     have S := S.addNil 23 1
     obtain ⟨r74, hr75, h⟩ := bindE h
     refine WP.cut (fun f w => match r74 with | .inl y_67 => ∃ (H66 : Hp) (v68 : Value), f 11 = v68 ∧ Sl (α := (List Str)) H66 v68 y_67 ∧ St w0 H0 w H66 [.row v68 23 1 y_67.length] | .inr _ => False) ?_ ?_
     ·refine WP.block ?_
      refine WP.loopM (ref10_ParseKeys_L4 p_x1 y_25) (fun s f w => match s with | (y_60, y_64) => ∃ (H57 : Hp) (v61 : Value), f 1 = vp_x1 ∧ f 7 = v26 ∧ f 11 = v61 ∧ f 12 = (int y_64) ∧ Sl (α := GAxis) H57 vp_x1 p_x1 ∧ Sl (α := (List Str)) H57 v26 y_25 ∧ Sl (α := (List Str)) H57 v61 y_60 ∧ St w0 H0 w H57 [.row v61 23 1 y_60.length, .row v26 23 1 y_25.length]) (([] : List (List Str)), 0) r74 hr75 ?_ ?_
      ·exact ⟨H23, .slice none 0 0, h24, h28, rfl, rfl, Rp_x1, R27, Sl.nil, S⟩
      ·intro s f w hI y71 hy72 hy73
       obtain ⟨y_60, y_64⟩ := s
       obtain ⟨H57, v61, h58, h59, h63, h65, Rp_x1, R27, R62, S⟩ := hI
       refine WP.s<|WP.s<|WP.g<|WL.m (int y_64) h65<|WL.m (v26) h59<|WL.w (R.lenL (α := (List Str)) (xs := y_25) (H := H57) R27 rfl Tryz.underlying22)<|WL.w (R.lss rfl rfl)<|WL.e ?_
       rcases condE hy72 with ⟨hc76, hy72⟩ | ⟨hc76, hy72⟩
       ·refine WP.condT rfl hc76<|WP.skip<|WP.s<|WP.block<|WP.s<|WP.s<|WP.g<|WL.m (v26) h59<|WL.m (int y_64) h65 ?_
        obtain ⟨x77, hx77, hy72⟩ := bindE hy72
        refine W.idx (α := (List Str)) R27 rfl rfl el22 hx77 ?_
        rintro a78 _ hA79 ⟨v80, rfl, R81⟩
        refine WL.w (R.loadH (v := v80) S rfl hA79 lay23 rfl)<|WL.w (R.lenL (α := Str) (xs := x77) (H := H57) R81 rfl Tryz.underlying23)<|WL.m (vp_x1) h58<|WL.w (R.lenL (α := GAxis) (xs := p_x1) (H := H57) Rp_x1 rfl Tryz.underlying43)<|WL.w (R.neq rfl rfl)<|WL.e ?_
        rcases condE hy72 with ⟨hc82, hy72⟩ | ⟨hc82, hy72⟩
        ·refine WP.condT rfl hc82<|WP.s<|WP.g<|WL.a (.slice none 0 0) rfl<|WL.a (int 11) rfl<|WL.e ?_
         obtain rfl := oi hy72
         obtain rfl := hy73
         obtain rfl := oi h
         refine WP.ret (Out.two rfl S rfl rfl ?_)
         exact ⟨_, rfl, Sl.nil⟩
        ·refine WP.condF rfl hc82<|WP.skip<|WP.s<|WP.g<|WL.a (.slice none 0 0) rfl<|WL.e<|WP.s<|WP.s<|WP.g<|WL.a (int 0) rfl<|WL.e ?_
         have S := S.addNil 9 1
         obtain ⟨r106, hr107, hy72⟩ := bindE hy72
         refine WP.cut (fun f w => match r106 with | .inl y_99 => ∃ (H94 : Hp) (v100 : Value), f 1 = vp_x1 ∧ f 7 = v26 ∧ f 11 = v61 ∧ f 12 = (int y_64) ∧ f 13 = v100 ∧ Sl (α := GAxis) H94 vp_x1 p_x1 ∧ Sl (α := (List Str)) H94 v26 y_25 ∧ Sl (α := (List Str)) H94 v61 y_60 ∧ Sl (α := Str) H94 v100 y_99 ∧ St w0 H0 w H94 [.row v100 9 1 y_99.length, .row v61 23 1 y_60.length, .row v26 23 1 y_25.length] | .inr _ => False) ?_ ?_
         ·refine WP.block ?_
          refine WP.loopM (ref10_ParseKeys_L2 p_x1 y_25 y_64) (fun s f w => match s with | (y_88, y_92) => ∃ (H83 : Hp) (v89 : Value), f 1 = vp_x1 ∧ f 7 = v26 ∧ f 11 = v61 ∧ f 12 = (int y_64) ∧ f 13 = v89 ∧ f 14 = (int y_92) ∧ Sl (α := GAxis) H83 vp_x1 p_x1 ∧ Sl (α := (List Str)) H83 v26 y_25 ∧ Sl (α := (List Str)) H83 v61 y_60 ∧ Sl (α := Str) H83 v89 y_88 ∧ St w0 H0 w H83 [.row v89 9 1 y_88.length, .row v61 23 1 y_60.length, .row v26 23 1 y_25.length]) (([] : List Str), 0) r106 hr107 ?_ ?_
          ·exact ⟨H57, .slice none 0 0, h58, h59, h63, h65, rfl, rfl, Rp_x1, R27, R62, Sl.nil, S⟩
          ·intro s f w hI y103 hy104 hy105
           obtain ⟨y_88, y_92⟩ := s
           obtain ⟨H83, v89, h84, h85, h86, h87, h91, h93, Rp_x1, R27, R62, R90, S⟩ := hI
           refine WP.s<|WP.s<|WP.g<|WL.m (int y_92) h93<|WL.m (vp_x1) h84<|WL.w (R.lenL (α := GAxis) (xs := p_x1) (H := H83) Rp_x1 rfl Tryz.underlying43)<|WL.w (R.lss rfl rfl)<|WL.e ?_
           rcases condE hy104 with ⟨hc108, hy104⟩ | ⟨hc108, hy104⟩
           ·refine WP.condT rfl hc108<|WP.skip<|WP.s<|WP.block<|WP.s<|WP.g<|WL.a (int (-1)) rfl<|WL.e<|WP.s<|WP.s<|WP.g<|WL.a (int 0) rfl ?_
            refine WL.e ?_
            obtain ⟨y_127, hr133, hy104⟩ := bindE hy104
            refine WP.cut (fun f w => ∃ (H120 : Hp), f 1 = vp_x1 ∧ f 7 = v26 ∧ f 11 = v61 ∧ f 12 = (int y_64) ∧ f 13 = v89 ∧ f 14 = (int y_92) ∧ f 15 = (int y_127) ∧ Sl (α := GAxis) H120 vp_x1 p_x1 ∧ Sl (α := (List Str)) H120 v26 y_25 ∧ Sl (α := (List Str)) H120 v61 y_60 ∧ Sl (α := Str) H120 v89 y_88 ∧ St w0 H0 w H120 [.row v89 9 1 y_88.length, .row v61 23 1 y_60.length, .row v26 23 1 y_25.length]) ?_ ?_
            ·refine WP.block ?_
             refine WP.loopM (ref10_ParseKeys_L1 p_x1 y_25 y_64 y_92) (fun s f w => match s with | (y_116, y_118) => ∃ (H109 : Hp), f 1 = vp_x1 ∧ f 7 = v26 ∧ f 11 = v61 ∧ f 12 = (int y_64) ∧ f 13 = v89 ∧ f 14 = (int y_92) ∧ f 15 = (int y_116) ∧ f 16 = (int y_118) ∧ Sl (α := GAxis) H109 vp_x1 p_x1 ∧ Sl (α := (List Str)) H109 v26 y_25 ∧ Sl (α := (List Str)) H109 v61 y_60 ∧ Sl (α := Str) H109 v89 y_88 ∧ St w0 H0 w H109 [.row v89 9 1 y_88.length, .row v61 23 1 y_60.length, .row v26 23 1 y_25.length]) ((-1), 0) y_127 hr133 ?_ ?_
             ·exact ⟨H83, h84, h85, h86, h87, h91, h93, rfl, rfl, Rp_x1, R27, R62, R90, S⟩
             ·intro s f w hI y129 hy130 hy131
              obtain ⟨y_116, y_118⟩ := s
              obtain ⟨H109, h110, h111, h112, h113, h114, h115, h117, h119, Rp_x1, R27, R62, R90, S⟩ := hI
              refine WP.s<|WP.s<|WP.g<|WL.m (int y_118) h119<|WL.m (vp_x1) h110<|WL.m (int y_92) h115 ?_
              obtain ⟨x134, hx134, hy130⟩ := bindE hy130
              refine W.idx (α := GAxis) Rp_x1 rfl rfl el43 hx134 ?_
              rintro a135 _ hA136 ⟨v137, rfl, R138⟩
              refine WL.w (R.field rfl fld84_1) ?_
              have hA139 := At.add hA136 1 (by simp)
              refine WL.w (R.loadH (v := v137) S rfl hA139 lay23 rfl)<|WL.w (R.lenL (α := Str) (xs := x134.fValues) (H := H109) R138 rfl Tryz.underlying23)<|WL.w (R.lss rfl rfl)<|WL.e ?_
              rcases condE hy130 with ⟨hc140, hy130⟩ | ⟨hc140, hy130⟩
              ·refine WP.condT rfl hc140<|WP.skip<|WP.s<|WP.block<|WP.s<|WP.quiet S (by kernel_rfl) (by kernel_rfl)<|WQ.val (fun _ _ => (R.mv (v := vp_x1) h110))<|WQ.val (fun _ _ => (R.mv (v := int y_92) h115)) ?_
               obtain ⟨x144, hx144, hy130⟩ := bindE hy130
               refine WQ.idx (α := GAxis) Rp_x1 rfl rfl el43 hx144 ?_
               rintro a145 _ hA146 ⟨v147, rfl, R148⟩
               refine WQ.val (fun _ _ => (R.field rfl fld84_0)) ?_
               have hA149 := At.add hA146 0 (by simp)
               refine WQ.val (fun w hw => by obtain ⟨_, hq, S⟩ := hw; exact (R.loadH (v := str x144.fName) S rfl (At.mono hA149 hq (by simp)) lay9 rfl))<|WQ.val (fun _ _ => (R.mv (v := v26) h111))<|WQ.val (fun _ _ => (R.mv (v := int y_64) h113)) ?_
               obtain ⟨x150, hx150, hy130⟩ := bindE hy130
               refine WQ.idx (α := (List Str)) R27 rfl rfl el22 hx150 ?_
               rintro a151 _ hA152 ⟨v153, rfl, R154⟩
               refine WQ.val (fun w hw => by obtain ⟨_, hq, S⟩ := hw; exact (R.loadH (v := v153) S rfl (At.mono hA152 hq (by simp)) lay23 rfl))<|WQ.val (fun _ _ => (R.mv (v := int y_92) h115)) ?_
               obtain ⟨x155, hx155, hy130⟩ := bindE hy130
               refine WQ.idx (α := Str) R154 rfl rfl el23 hx155 ?_
               rintro a156 _ hA157 rfl
               refine WQ.val (fun w hw => by obtain ⟨_, hq, S⟩ := hw; exact (R.loadH (v := str x155) S rfl (At.mono hA157 hq (by simp)) lay9 rfl))<|WQ.val (fun _ _ => (R.mv (v := vp_x1) h110))<|WQ.val (fun _ _ => (R.mv (v := int y_92) h115)) ?_
               obtain ⟨x158, hx158, hy130⟩ := bindE hy130
               refine WQ.idx (α := GAxis) Rp_x1 rfl rfl el43 hx158 ?_
               rintro a159 _ hA160 ⟨v161, rfl, R162⟩
               refine WQ.val (fun _ _ => (R.field rfl fld84_1)) ?_
               have hA163 := At.add hA160 1 (by simp)
               refine WQ.val (fun w hw => by obtain ⟨_, hq, S⟩ := hw; exact (R.loadH (v := v161) S rfl (At.mono hA163 hq (by simp)) lay23 rfl))<|WQ.val (fun _ _ => (R.mv (v := int y_118) h119)) ?_
               obtain ⟨x164, hx164, hy130⟩ := bindE hy130
               refine WQ.idx (α := Str) R162 rfl rfl el23 hx164 ?_
               rintro a165 _ hA166 rfl
               refine WQ.val (fun w hw => by obtain ⟨_, hq, S⟩ := hw; exact (R.loadH (v := str x164) S rfl (At.mono hA166 hq (by simp)) lay9 rfl)) ?_
               obtain ⟨r167, hr167, hy130⟩ := bindE hy130
               refine WQ.call (v := boo r167) rfl (fun w H' hq S => ref10_Same_ok S.holds (hG.post S.post) x144.fName x155 x164 hr167)<|WQ.nil ?_
               intro w141 H142 hle143 S
               have Rp_x1 := Sl.mono Rp_x1 hle143
               have R27 := Sl.mono R27 hle143
               have R62 := Sl.mono R62 hle143
               have R90 := Sl.mono R90 hle143
               rcases condE hy130 with ⟨hc172, hy130⟩ | ⟨hc172, hy130⟩
               ·refine WP.condT rfl hc172<|WP.g<|WL.m (int y_118) h119<|WL.a (int y_118) rfl<|WL.e<|WP.g<|WL.m (int y_118) h119<|WL.w (R.add rfl rfl)<|WL.a (int (wr (y_118 + 1))) rfl<|WL.e ?_
                obtain rfl := oi hy130
                exact ⟨rfl, ⟨H142, h110, h111, h112, h113, h114, h115, rfl, rfl, Rp_x1, R27, R62, R90, S⟩⟩
               ·refine WP.condF rfl hc172<|WP.skip<|WP.g<|WL.m (int y_118) h119<|WL.w (R.add rfl rfl)<|WL.a (int (wr (y_118 + 1))) rfl<|WL.e ?_
                obtain rfl := oi hy130
                exact ⟨rfl, ⟨H142, h110, h111, h112, h113, h114, h115, h117, rfl, Rp_x1, R27, R62, R90, S⟩⟩
              ·refine WP.condF rfl hc140<|WP.exit ?_
               obtain rfl := oi hy130
               obtain rfl := hy131
               exact ⟨H109, h110, h111, h112, h113, h114, h115, h117, Rp_x1, R27, R62, R90, S⟩
            ·rintro f w ⟨H120, h121, h122, h123, h124, h125, h126, h128, Rp_x1, R27, R62, R90, S⟩
             refine WP.s<|WP.s<|WP.g<|WL.m (int y_127) h128<|WL.w (R.lss rfl rfl)<|WL.e ?_
             rcases condE hy104 with ⟨hc173, hy104⟩ | ⟨hc173, hy104⟩
             ·refine WP.condT rfl hc173<|WP.s<|WP.g<|WL.a (.slice none 0 0) rfl<|WL.a (int 11) rfl<|WL.e ?_
              obtain rfl := oi hy104
              obtain rfl := hy105
              obtain rfl := oi hy72
              obtain rfl := hy73
              obtain rfl := oi h
              refine WP.ret (Out.two rfl S rfl rfl ?_)
              exact ⟨_, rfl, Sl.nil⟩
             ·refine WP.condF rfl hc173<|WP.skip<|WP.g<|WL.m (v89) h125<|WL.m (vp_x1) h121<|WL.m (int y_92) h126 ?_
              obtain ⟨x174, hx174, hy104⟩ := bindE hy104
              refine W.idx (α := GAxis) Rp_x1 rfl rfl el43 hx174 ?_
              rintro a175 _ hA176 ⟨v177, rfl, R178⟩
              refine WL.w (R.field rfl fld84_1) ?_
              have hA179 := At.add hA176 1 (by simp)
              refine WL.w (R.loadH (v := v177) S rfl hA179 lay23 rfl)<|WL.m (int y_127) h128 ?_
              obtain ⟨x180, hx180, hy104⟩ := bindE hy104
              refine W.idx (α := Str) R178 rfl rfl el23 hx180 ?_
              rintro a181 _ hA182 rfl
              refine WL.w (R.loadH (v := str x180) S rfl hA182 lay9 rfl)<|W.bslice (α := Str) [(str x180)] ([x180] : List Str) S el23 rfl rfl rfl (by decide) (Go.Eng.encS ⟨rfl, rfl⟩ enc0) ?_
              intro u183 w184 H185 hle186 R187 S
              have Rp_x1 := Sl.mono Rp_x1 hle186
              have R27 := Sl.mono R27 hle186
              have R62 := Sl.mono R62 hle186
              have R90 := Sl.mono R90 hle186
              obtain ⟨l188, hl188, hy104⟩ := bindE hy104
              refine W.app (α := Str) (i := 1) S el23 rfl rfl rfl R90 R187 hl188 ?_
              intro v189 w190 H191 hle192 R193 S
              have Rp_x1 := Sl.mono Rp_x1 hle192
              have R27 := Sl.mono R27 hle192
              have R62 := Sl.mono R62 hle192
              have R90 := Sl.mono R90 hle192
              refine WL.a (v189) rfl<|WL.e<|WP.g<|WL.m (int y_92) h126<|WL.w (R.add rfl rfl)<|WL.a (int (wr (y_92 + 1))) rfl<|WL.e ?_
              obtain rfl := oi hy104
              exact ⟨rfl, ⟨H191, v189, h121, h122, h123, h124, rfl, rfl, Rp_x1, R27, R62, R193, (S.drop _ (.cons _ (.cons_cons _ (.cons_cons _ (.cons_cons _ .slnil)))))⟩⟩
           ·refine WP.condF rfl hc108<|WP.exit ?_
            obtain rfl := oi hy104
            obtain rfl := hy105
            exact ⟨H83, v89, h84, h85, h86, h87, h91, Rp_x1, R27, R62, R90, S⟩
         ·intro f w hM
          rcases r106 with y_99 | e
          ·obtain ⟨H94, v100, h95, h96, h97, h98, h102, Rp_x1, R27, R62, R101, S⟩ := hM
           refine WP.s<|WP.g<|WL.a (boo false) rfl<|WL.e<|WP.s<|WP.s<|WP.g<|WL.a (int 0) rfl<|WL.e ?_
           obtain ⟨y_210, hr216, hy72⟩ := bindE hy72
           refine WP.cut (fun f w => ∃ (H204 : Hp), f 1 = vp_x1 ∧ f 7 = v26 ∧ f 11 = v61 ∧ f 12 = (int y_64) ∧ f 13 = v100 ∧ f 17 = (boo y_210) ∧ Sl (α := GAxis) H204 vp_x1 p_x1 ∧ Sl (α := (List Str)) H204 v26 y_25 ∧ Sl (α := (List Str)) H204 v61 y_60 ∧ Sl (α := Str) H204 v100 y_99 ∧ St w0 H0 w H204 [.row v100 9 1 y_99.length, .row v61 23 1 y_60.length, .row v26 23 1 y_25.length]) ?_ ?_
           ·refine WP.block ?_
            refine WP.loopM (ref10_ParseKeys_L3 y_60 y_99) (fun s f w => match s with | (y_200, y_202) => ∃ (H194 : Hp), f 1 = vp_x1 ∧ f 7 = v26 ∧ f 11 = v61 ∧ f 12 = (int y_64) ∧ f 13 = v100 ∧ f 17 = (boo y_200) ∧ f 18 = (int y_202) ∧ Sl (α := GAxis) H194 vp_x1 p_x1 ∧ Sl (α := (List Str)) H194 v26 y_25 ∧ Sl (α := (List Str)) H194 v61 y_60 ∧ Sl (α := Str) H194 v100 y_99 ∧ St w0 H0 w H194 [.row v100 9 1 y_99.length, .row v61 23 1 y_60.length, .row v26 23 1 y_25.length]) (false, 0) y_210 hr216 ?_ ?_
            ·exact ⟨H94, h95, h96, h97, h98, h102, rfl, rfl, Rp_x1, R27, R62, R101, S⟩
            ·intro s f w hI y212 hy213 hy214
             obtain ⟨y_200, y_202⟩ := s
             obtain ⟨H194, h195, h196, h197, h198, h199, h201, h203, Rp_x1, R27, R62, R101, S⟩ := hI
             refine WP.s<|WP.s<|WP.g<|WL.m (int y_202) h203<|WL.m (v61) h197<|WL.w (R.lenL (α := (List Str)) (xs := y_60) (H := H194) R62 rfl Tryz.underlying22)<|WL.w (R.lss rfl rfl)<|WL.e ?_
             rcases condE hy213 with ⟨hc217, hy213⟩ | ⟨hc217, hy213⟩
             ·refine WP.condT rfl hc217<|WP.skip<|WP.s<|WP.block<|WP.g<|WL.m (boo y_200) h201<|WL.m (boo y_200) rfl ?_
              obtain ⟨b230, hg219, hy213⟩ := bindE hy213
              refine WL.grpw 7 [120, 121, 122, 123, 124, 125] 126 (boo b230) (fun w => ∃ H' : Hp, H194.le H' ∧ St w0 H0 w H' [.row v100 9 1 y_99.length, .row v61 23 1 y_60.length, .row v26 23 1 y_25.length]) ?_ ?_
              ·rcases boolE y_200 with hb218 | hb218
               ·replace hg219 := condT hg219 hb218
                refine WL.n rfl rfl hb218<|WL.n rfl rfl hb218<|WL.n rfl rfl hb218<|WL.n rfl rfl hb218<|WL.n rfl rfl hb218<|WL.n rfl rfl hb218<|WL.w (R.pickT rfl hb218 rfl) ?_
                exact WL.e ⟨(congrArg boo (oi hg219)), ag, ⟨H194, (Hp.le.refl _), S⟩⟩
               ·replace hg219 := condF hg219 hb218
                refine WL.y rfl rfl hb218<|WL.m (v61) h197<|WL.y rfl rfl hb218<|WL.m (int y_202) h203<|WL.y rfl rfl hb218 ?_
                obtain ⟨x220, hx220, hg219⟩ := bindE hg219
                refine W.idx (α := (List Str)) R62 rfl rfl el22 hx220 ?_
                rintro a221 _ hA222 ⟨v223, rfl, R224⟩
                refine WL.y rfl rfl hb218<|WL.w (R.loadH (v := v223) S rfl hA222 lay23 rfl)<|WL.y rfl rfl hb218<|WL.m (v100) h199<|WL.y rfl rfl hb218 ?_
                obtain ⟨r225, hr225, hg219⟩ := bindE hg219
                refine W.call S rfl (ref10_SameStrings_ok S.holds (hG.post S.post) x220 y_99 R224 R101 hr225) ?_
                rintro v226 w227 H228 hle229 S rfl
                have Rp_x1 := Sl.mono Rp_x1 hle229
                have R27 := Sl.mono R27 hle229
                have R62 := Sl.mono R62 hle229
                have R101 := Sl.mono R101 hle229
                refine WL.w (R.pickF rfl hb218 rfl) ?_
                exact WL.e ⟨(congrArg boo (oi hg219)), ag, ⟨H228, hle229, S⟩⟩
              ·intro us w232 ⟨H231, hle233, S⟩
               have Rp_x1 := Sl.mono Rp_x1 hle233
               have R27 := Sl.mono R27 hle233
               have R62 := Sl.mono R62 hle233
               have R101 := Sl.mono R101 hle233
               refine WL.a (boo b230) rfl<|WL.e<|WP.g<|WL.m (int y_202) h203<|WL.w (R.add rfl rfl)<|WL.a (int (wr (y_202 + 1))) rfl<|WL.e ?_
               obtain rfl := oi hy213
               exact ⟨rfl, ⟨H231, h195, h196, h197, h198, h199, rfl, rfl, Rp_x1, R27, R62, R101, S⟩⟩
             ·refine WP.condF rfl hc217<|WP.exit ?_
              obtain rfl := oi hy213
              obtain rfl := hy214
              exact ⟨H194, h195, h196, h197, h198, h199, h201, Rp_x1, R27, R62, R101, S⟩
           ·rintro f w ⟨H204, h205, h206, h207, h208, h209, h211, Rp_x1, R27, R62, R101, S⟩
            refine WP.s<|WP.g<|WL.m (boo y_210) h211<|WL.w (R.not rfl)<|WL.e ?_
            rcases condE hy72 with ⟨hc234, hy72⟩ | ⟨hc234, hy72⟩
            ·refine WP.condT rfl hc234<|WP.g<|WL.m (v61) h207<|WL.m (v100) h209<|W.bslice (α := (List Str)) [v100] ([y_99] : List (List Str)) S el22 rfl rfl rfl (by decide) (Go.Eng.encS ⟨(by rw [Sl.cellsOne R101]; rfl), _, (by rw [Sl.cellsOne R101]), R101⟩ enc0) ?_
             intro u235 w236 H237 hle238 R239 S
             have Rp_x1 := Sl.mono Rp_x1 hle238
             have R27 := Sl.mono R27 hle238
             have R62 := Sl.mono R62 hle238
             obtain ⟨l240, hl240, hy72⟩ := bindE hy72
             refine W.app (α := (List Str)) (i := 2) S el22 rfl rfl rfl R62 R239 hl240 ?_
             intro v241 w242 H243 hle244 R245 S
             have Rp_x1 := Sl.mono Rp_x1 hle244
             have R27 := Sl.mono R27 hle244
             have R62 := Sl.mono R62 hle244
             refine WL.a (v241) rfl<|WL.e<|WP.g<|WL.m (int y_64) h208<|WL.w (R.add rfl rfl)<|WL.a (int (wr (y_64 + 1))) rfl<|WL.e ?_
             obtain rfl := oi hy72
             exact ⟨rfl, ⟨H243, v241, h205, h206, rfl, rfl, Rp_x1, R27, R245, (S.drop _ (.cons _ (.cons _ (.cons_cons _ (.cons_cons _ .slnil)))))⟩⟩
            ·refine WP.condF rfl hc234<|WP.skip<|WP.g<|WL.m (int y_64) h208<|WL.w (R.add rfl rfl)<|WL.a (int (wr (y_64 + 1))) rfl<|WL.e ?_
             obtain rfl := oi hy72
             exact ⟨rfl, ⟨H204, v61, h205, h206, h207, rfl, Rp_x1, R27, R62, (S.drop _ (.cons _ (.cons_cons _ (.cons_cons _ .slnil))))⟩⟩
          ·exact hM.elim
       ·refine WP.condF rfl hc76<|WP.exit ?_
        obtain rfl := oi hy72
        obtain rfl := hy73
        exact ⟨H57, v61, h63, R62, (S.drop _ (.cons_cons _ (.cons _ .slnil)))⟩
     ·intro f w hM
      rcases r74 with y_67 | e
      ·obtain ⟨H66, v68, h70, R69, S⟩ := hM
       refine WP.s<|WP.g<|WL.m (v68) h70<|WL.a (v68) rfl<|WL.a (int 0) rfl<|WL.e ?_
       obtain rfl := oi h
       refine WP.ret (Out.two rfl S rfl rfl ?_)
       exact ⟨_, rfl, R69⟩
      ·exact hM.elim
    ·exact hM.elim
theorem ref19_VaryNames_ok {w0 : World} {H0 : Hp} (hw : Holds w0 H0) (hG : Tryz.Gl w0) (p_ppend : (List GField)) {vp_ppend : Value} (Rp_ppend : Sl (α := GField) H0 vp_ppend p_ppend) {r : ((List Str) × Bool)} (h : ref19_VaryNames p_ppend = some r) :
  Con Tryz.prog 52 [vp_ppend] w0 H0 (fun H' v => ∃ u1 : Value, v = (.tuple ⟨[u1, (boo r.2)]⟩) ∧ Sl (α := Str) H' u1 r.1) := by
 refine Con.mk (N := 78) Tryz.func52 rfl rfl (by kernel_rfl) rfl ?_
 have S := St.start hw
 refine WP.s<|WP.g<|WL.a (.slice none 0 0) rfl<|WL.a (boo false) rfl<|WL.e<|WP.s<|WP.g<|WL.m (vp_ppend) rfl ?_
 obtain ⟨r1, hr1, h⟩ := bindE h
 refine W.call S rfl (ref01_All_ok S.holds (hG.post S.post) p_ppend [86, 97, 114, 121] Rp_ppend hr1) ?_
 rintro v2 w3 H4 hle5 S R6
 refine WL.a (v2) rfl<|WL.e<|WP.s<|WP.s<|WP.g<|WL.m (v2) rfl<|WL.w (R.lenL (α := Str) (xs := r1) (H := H4) R6 rfl Tryz.underlying23)<|WL.w (R.geq rfl rfl)<|WL.e ?_
 rcases condE h with ⟨hc7, h⟩ | ⟨hc7, h⟩
 ·refine WP.condT rfl hc7<|WP.s<|WP.g<|WL.a (.slice none 0 0) rfl<|WL.a (boo false) rfl<|WL.e ?_
  obtain rfl := oi h
  refine WP.ret (Out.two rfl S rfl rfl ?_)
  exact ⟨_, rfl, Sl.nil⟩
 ·refine WP.condF rfl hc7<|WP.skip<|WP.s<|WP.g<|WL.a (.slice none 0 0) rfl<|WL.e<|WP.s<|WP.s<|WP.g<|WL.a (int 0) rfl<|WL.e ?_
  obtain ⟨r24, hr25, h⟩ := bindE h
  refine WP.cut (fun f w => match r24 with | .inl y_17 => ∃ (H16 : Hp) (v18 : Value), f 5 = v18 ∧ Sl (α := Str) H16 v18 y_17 ∧ St w0 H0 w H16 [] | .inr _ => False) ?_ ?_
  ·refine WP.block ?_
   refine WP.loopM (ref19_VaryNames_L1 r1) (fun s f w => match s with | (y_10, y_14) => ∃ (H8 : Hp) (v11 : Value), f 4 = v2 ∧ f 5 = v11 ∧ f 6 = (int y_14) ∧ Sl (α := Str) H8 v2 r1 ∧ Sl (α := Str) H8 v11 y_10 ∧ St w0 H0 w H8 []) (([] : List Str), 0) r24 hr25 ?_ ?_
   ·exact ⟨H4, .slice none 0 0, rfl, rfl, rfl, R6, Sl.nil, S⟩
   ·intro s f w hI y21 hy22 hy23
    obtain ⟨y_10, y_14⟩ := s
    obtain ⟨H8, v11, h9, h13, h15, R6, R12, S⟩ := hI
    refine WP.s<|WP.s<|WP.g<|WL.m (int y_14) h15<|WL.m (v2) h9<|WL.w (R.lenL (α := Str) (xs := r1) (H := H8) R6 rfl Tryz.underlying23)<|WL.w (R.lss rfl rfl)<|WL.e ?_
    rcases condE hy22 with ⟨hc26, hy22⟩ | ⟨hc26, hy22⟩
    ·refine WP.condT rfl hc26<|WP.skip<|WP.s<|WP.block<|WP.s<|WP.s<|WP.g<|WL.m (v2) h9<|WL.m (int y_14) h15 ?_
     obtain ⟨x27, hx27, hy22⟩ := bindE hy22
     refine W.idx (α := Str) R6 rfl rfl el23 hx27 ?_
     rintro a28 _ hA29 rfl
     refine WL.w (R.loadH (v := str x27) S rfl hA29 lay9 rfl) ?_
     obtain ⟨r30, hr30, hy22⟩ := bindE hy22
     refine W.call S rfl (ref01_Token_ok S.holds (hG.post S.post) x27 hr30) ?_
     rintro v31 w32 H33 hle34 S rfl
     have R6 := Sl.mono R6 hle34
     have R12 := Sl.mono R12 hle34
     refine WL.w (R.not rfl)<|WL.m (boo (!r30)) rfl ?_
     obtain ⟨b40, hg36, hy22⟩ := bindE hy22
     refine WL.grp 6 [28, 29, 30, 31, 32] 33 (boo b40) ?_ ?_
     ·rcases boolE (!r30) with hb35 | hb35
      ·replace hg36 := condT hg36 hb35
       refine WL.n rfl rfl hb35<|WL.n rfl rfl hb35<|WL.n rfl rfl hb35<|WL.n rfl rfl hb35<|WL.n rfl rfl hb35<|WL.w (R.pickT rfl hb35 rfl) ?_
       exact WL.e ⟨(congrArg boo (oi hg36)), ag, rfl⟩
      ·replace hg36 := condF hg36 hb35
       refine WL.y rfl rfl hb35<|WL.m (v2) h9<|WL.y rfl rfl hb35<|WL.m (int y_14) h15<|WL.y rfl rfl hb35 ?_
       obtain ⟨x37, hx37, hg36⟩ := bindE hg36
       refine W.idx (α := Str) R6 rfl rfl el23 hx37 ?_
       rintro a38 _ hA39 rfl
       refine WL.y rfl rfl hb35<|WL.w (R.loadH (v := str x37) S rfl hA39 lay9 rfl)<|WL.y rfl rfl hb35<|WL.w (R.eqlS (a := x37) (b := [42]) rfl rfl)<|WL.w (R.pickF rfl hb35 rfl) ?_
       exact WL.e ⟨(congrArg boo (oi hg36)), ag, rfl⟩
     ·intro us
      refine WL.e ?_
      rcases condE hy22 with ⟨hc41, hy22⟩ | ⟨hc41, hy22⟩
      ·refine WP.condT rfl hc41<|WP.s<|WP.g<|WL.a (.slice none 0 0) rfl<|WL.a (boo false) rfl<|WL.e ?_
       obtain rfl := oi hy22
       obtain rfl := hy23
       obtain rfl := oi h
       refine WP.ret (Out.two rfl S rfl rfl ?_)
       exact ⟨_, rfl, Sl.nil⟩
      ·refine WP.condF rfl hc41<|WP.skip<|WP.s<|WP.g<|WL.m (v2) h9<|WL.m (int y_14) h15 ?_
       obtain ⟨x42, hx42, hy22⟩ := bindE hy22
       refine W.idx (α := Str) R6 rfl rfl el23 hx42 ?_
       rintro a43 _ hA44 rfl
       refine WL.w (R.loadH (v := str x42) S rfl hA44 lay9 rfl) ?_
       obtain ⟨r45, hr45, hy22⟩ := bindE hy22
       refine W.call S rfl (ref01_Lower_ok S.holds (hG.post S.post) x42 hr45) ?_
       rintro v46 w47 H48 hle49 S rfl
       have R6 := Sl.mono R6 hle49
       have R12 := Sl.mono R12 hle49
       refine WL.a (str r45) rfl<|WL.e<|WP.s<|WP.g<|WL.a (int 0) rfl<|WL.e<|WP.s ?_
       obtain ⟨y_62, hr68, hy22⟩ := bindE hy22
       refine WP.cut (fun f w => ∃ (H57 : Hp), f 4 = v2 ∧ f 5 = v11 ∧ f 6 = (int y_14) ∧ f 7 = (str r45) ∧ f 8 = (int y_62) ∧ Sl (α := Str) H57 v2 r1 ∧ Sl (α := Str) H57 v11 y_10 ∧ St w0 H0 w H57 []) ?_ ?_
       ·refine WP.block ?_
        refine WP.loopM (ref19_VaryNames_L0 y_10 r45) (fun s f w => match s with | y_55 => ∃ (H50 : Hp), f 4 = v2 ∧ f 5 = v11 ∧ f 6 = (int y_14) ∧ f 7 = (str r45) ∧ f 8 = (int y_55) ∧ Sl (α := Str) H50 v2 r1 ∧ Sl (α := Str) H50 v11 y_10 ∧ St w0 H0 w H50 []) 0 y_62 hr68 ?_ ?_
        ·exact ⟨H48, h9, h13, h15, rfl, rfl, R6, R12, S⟩
        ·intro y_55 f w hI y64 hy65 hy66
         obtain ⟨H50, h51, h52, h53, h54, h56, R6, R12, S⟩ := hI
         refine WP.s<|WP.s<|WP.g<|WL.m (int y_55) h56<|WL.m (v11) h52<|WL.w (R.lenL (α := Str) (xs := y_10) (H := H50) R12 rfl Tryz.underlying23)<|WL.w (R.lss rfl rfl)<|WL.m (boo (decide (y_55 < (y_10.length : Int)))) rfl ?_
         obtain ⟨b74, hg70, hy65⟩ := bindE hy65
         refine WL.grp 7 [44, 45, 46, 47, 48, 49] 50 (boo b74) ?_ ?_
         ·rcases boolE (decide (y_55 < (y_10.length : Int))) with hb69 | hb69
          ·replace hg70 := condT hg70 hb69
           refine WL.y rfl rfl hb69<|WL.m (v11) h52<|WL.y rfl rfl hb69<|WL.m (int y_55) h56<|WL.y rfl rfl hb69 ?_
           obtain ⟨x71, hx71, hg70⟩ := bindE hg70
           refine W.idx (α := Str) R12 rfl rfl el23 hx71 ?_
           rintro a72 _ hA73 rfl
           refine WL.y rfl rfl hb69<|WL.w (R.loadH (v := str x71) S rfl hA73 lay9 rfl)<|WL.y rfl rfl hb69<|WL.m (str r45) h54<|WL.y rfl rfl hb69<|WL.w (R.lssS (a := x71) (b := r45) rfl rfl)<|WL.w (R.pickT rfl hb69 rfl) ?_
           exact WL.e ⟨(congrArg boo (oi hg70)), ag, rfl⟩
          ·replace hg70 := condF hg70 hb69
           refine WL.n rfl rfl hb69<|WL.n rfl rfl hb69<|WL.n rfl rfl hb69<|WL.n rfl rfl hb69<|WL.n rfl rfl hb69<|WL.n rfl rfl hb69<|WL.w (R.pickF rfl hb69 rfl) ?_
           exact WL.e ⟨(congrArg boo (oi hg70)), ag, rfl⟩
         ·intro us
          refine WL.e ?_
          rcases condE hy65 with ⟨hc75, hy65⟩ | ⟨hc75, hy65⟩
          ·refine WP.condT rfl hc75<|WP.skip<|WP.block<|WP.g<|WL.m (int y_55) h56<|WL.w (R.add rfl rfl)<|WL.a (int (wr (y_55 + 1))) rfl<|WL.e ?_
           obtain rfl := oi hy65
           exact ⟨rfl, ⟨H50, h51, h52, h53, h54, rfl, R6, R12, S⟩⟩
          ·refine WP.condF rfl hc75<|WP.exit ?_
           obtain rfl := oi hy65
           obtain rfl := hy66
           exact ⟨H50, h51, h52, h53, h54, h56, R6, R12, S⟩
       ·rintro f w ⟨H57, h58, h59, h60, h61, h63, R6, R12, S⟩
        refine WP.s<|WP.s<|WP.g<|WL.m (int y_62) h63<|WL.m (v11) h59<|WL.w (R.lenL (α := Str) (xs := y_10) (H := H57) R12 rfl Tryz.underlying23)<|WL.w (R.lss rfl rfl)<|WL.m (boo (decide (y_62 < (y_10.length : Int)))) rfl ?_
        obtain ⟨b81, hg77, hy22⟩ := bindE hy22
        refine WL.grp 7 [58, 59, 60, 61, 62, 63] 64 (boo b81) ?_ ?_
        ·rcases boolE (decide (y_62 < (y_10.length : Int))) with hb76 | hb76
         ·replace hg77 := condT hg77 hb76
          refine WL.y rfl rfl hb76<|WL.m (v11) h59<|WL.y rfl rfl hb76<|WL.m (int y_62) h63<|WL.y rfl rfl hb76 ?_
          obtain ⟨x78, hx78, hg77⟩ := bindE hg77
          refine W.idx (α := Str) R12 rfl rfl el23 hx78 ?_
          rintro a79 _ hA80 rfl
          refine WL.y rfl rfl hb76<|WL.w (R.loadH (v := str x78) S rfl hA80 lay9 rfl)<|WL.y rfl rfl hb76<|WL.m (str r45) h61<|WL.y rfl rfl hb76<|WL.w (R.eqlS (a := x78) (b := r45) rfl rfl)<|WL.w (R.pickT rfl hb76 rfl) ?_
          exact WL.e ⟨(congrArg boo (oi hg77)), ag, rfl⟩
         ·replace hg77 := condF hg77 hb76
          refine WL.n rfl rfl hb76<|WL.n rfl rfl hb76<|WL.n rfl rfl hb76<|WL.n rfl rfl hb76<|WL.n rfl rfl hb76<|WL.n rfl rfl hb76<|WL.w (R.pickF rfl hb76 rfl) ?_
          exact WL.e ⟨(congrArg boo (oi hg77)), ag, rfl⟩
        ·intro us
         refine WL.e ?_
         rcases condE hy22 with ⟨hc82, hy22⟩ | ⟨hc82, hy22⟩
         ·refine WP.condT rfl hc82<|WP.exit<|WP.g<|WL.m (int y_14) h60<|WL.w (R.add rfl rfl)<|WL.a (int (wr (y_14 + 1))) rfl<|WL.e ?_
          obtain rfl := oi hy22
          exact ⟨rfl, ⟨H57, v11, h58, h59, rfl, R6, R12, S⟩⟩
         ·refine WP.condF rfl hc82<|WP.skip<|WP.s<|WP.g<|WL.m (v11) h59<|WL.m (int y_62) h63 ?_
          obtain ⟨l83, hl83, hy22⟩ := bindE hy22
          refine W.subHi (α := Str) R12 rfl rfl el23 hl83 ?_
          intro v84 R85
          have S := S.addNil 9 1
          obtain ⟨l86, hl86, hy22⟩ := bindE hy22
          refine W.app (α := Str) (i := 0) S el23 rfl rfl rfl Sl.nil R85 hl86 ?_
          intro v87 w88 H89 hle90 R91 S
          have R6 := Sl.mono R6 hle90
          have R12 := Sl.mono R12 hle90
          refine WL.a (v87) rfl<|WL.e<|WP.draw (by kernel_rfl) 9 rfl #[false, false, false, false, false, false, false, false, false] rfl ?_
          have S := S.drew
          refine WA.take (i := 0) #[true, false, false, false, false, false, false, false, false] rfl (by kernel_rfl) (by kernel_rfl) (by kernel_rfl) rfl (fun _ => (R.mv (v := v87) rfl))<|WA.take (i := 1) #[true, true, false, false, false, false, false, false, false] rfl (by kernel_rfl) (by kernel_rfl) (by kernel_rfl) rfl (fun _ => (R.mv (v := str r45) h61))<|WA.take (i := 4) #[true, true, false, false, true, false, false, false, false] rfl (by kernel_rfl) (by kernel_rfl) (by kernel_rfl) rfl (fun _ => (R.mv (v := v11) h59))<|WA.take (i := 5) #[true, true, false, false, true, true, false, false, false] rfl (by kernel_rfl) (by kernel_rfl) (by kernel_rfl) rfl (fun _ => (R.mv (v := int y_62) h63)) ?_
          obtain ⟨l92, hl92, hy22⟩ := bindE hy22
          refine WA.subLo (k := 6) #[true, true, false, false, true, true, true, false, false] rfl (by kernel_rfl) (by kernel_rfl) (by kernel_rfl) rfl (α := Str) R12 rfl rfl el23 hl92 ?_
          intro v93 R94
          refine WA.one (i := 2) #[true, true, true, false, true, true, true, false, false] rfl (by kernel_rfl) rfl<|W.bslice (α := Str) [(str r45)] ([r45] : List Str) S el23 rfl rfl rfl (by decide) (Go.Eng.encS ⟨rfl, rfl⟩ enc0) ?_
          intro u95 w96 H97 hle98 R99 S
          have R6 := Sl.mono R6 hle98
          have R12 := Sl.mono R12 hle98
          have R91 := Sl.mono R91 hle98
          have R94 := Sl.mono R94 hle98
          refine WL.e<|WA.one (i := 3) #[true, true, true, true, true, true, true, false, false] rfl (by kernel_rfl) rfl ?_
          obtain ⟨l100, hl100, hy22⟩ := bindE hy22
          refine W.app (α := Str) (i := 1) S el23 rfl rfl rfl R91 R99 hl100 ?_
          intro v101 w102 H103 hle104 R105 S
          have R6 := Sl.mono R6 hle104
          have R12 := Sl.mono R12 hle104
          have R94 := Sl.mono R94 hle104
          refine WL.e<|WA.one (i := 7) #[true, true, true, true, true, true, true, true, false] rfl (by kernel_rfl) rfl ?_
          obtain ⟨l106, hl106, hy22⟩ := bindE hy22
          refine W.app (α := Str) (i := 1) S el23 rfl rfl rfl R105 R94 hl106 ?_
          intro v107 w108 H109 hle110 R111 S
          have R6 := Sl.mono R6 hle110
          have R12 := Sl.mono R12 hle110
          refine WL.e<|WA.take (i := 8) #[true, true, true, true, true, true, true, true, true] rfl (by kernel_rfl) (by kernel_rfl) (by kernel_rfl) rfl (fun _ => (R.as (v := v107) rfl))<|WA.done (by kernel_rfl)<|WP.g<|WL.m (int y_14) h60<|WL.w (R.add rfl rfl)<|WL.a (int (wr (y_14 + 1))) rfl<|WL.e ?_
          obtain rfl := oi hy22
          exact ⟨rfl, ⟨H109, v107, h58, rfl, rfl, R6, R111, (S.drop _ (.cons _ (.cons _ .slnil)))⟩⟩
    ·refine WP.condF rfl hc26<|WP.exit ?_
     obtain rfl := oi hy22
     obtain rfl := hy23
     exact ⟨H8, v11, h13, R12, S⟩
  ·intro f w hM
   rcases r24 with y_17 | e
   ·obtain ⟨H16, v18, h20, R19, S⟩ := hM
    refine WP.s<|WP.g<|WL.m (v18) h20<|WL.a (v18) rfl<|WL.a (boo true) rfl<|WL.e ?_
    obtain rfl := oi h
    refine WP.ret (Out.two rfl S rfl rfl ?_)
    exact ⟨_, rfl, R19⟩
   ·exact hM.elim
theorem ref01_Join_ok {w0 : World} {H0 : Hp} (hw : Holds w0 H0) (hG : Tryz.Gl w0) (p_members : (List Str)) {vp_members : Value} (Rp_members : Sl (α := Str) H0 vp_members p_members) {r : Str} (h : ref01_Join p_members = some r) :
  Con Tryz.prog 150 [vp_members] w0 H0 (fun H' v => v = (str r)) := by
 refine Con.mk (N := 22) Tryz.func150 rfl rfl (by kernel_rfl) rfl ?_
 have S := St.start hw
 refine WP.s<|WP.g<|WL.a (str []) rfl<|WL.e<|WP.s<|WP.g<|WL.a (str []) rfl<|WL.e<|WP.s<|WP.s<|WP.g<|WL.a (int 0) rfl ?_
 refine WL.e ?_
 obtain ⟨s_8, hr14, h⟩ := bindE h
 refine WP.cut (fun f w => ∃ (H7 : Hp), f 3 = (str s_8) ∧ St w0 H0 w H7 []) ?_ ?_
 ·refine WP.block ?_
  refine WP.loopM (ref01_Join_L0 p_members) (fun s f w => match s with | (s_3, i_5) => ∃ (H1 : Hp), f 0 = vp_members ∧ f 3 = (str s_3) ∧ f 4 = (int i_5) ∧ Sl (α := Str) H1 vp_members p_members ∧ St w0 H0 w H1 []) ([], 0) s_8 hr14 ?_ ?_
  ·exact ⟨H0, rfl, rfl, rfl, Rp_members, S⟩
  ·intro s f w hI y10 hy11 hy12
   obtain ⟨s_3, i_5⟩ := s
   obtain ⟨H1, h2, h4, h6, Rp_members, S⟩ := hI
   refine WP.s<|WP.s<|WP.g<|WL.m (int i_5) h6<|WL.m (vp_members) h2<|WL.w (R.lenL (α := Str) (xs := p_members) (H := H1) Rp_members rfl Tryz.underlying23)<|WL.w (R.lss rfl rfl)<|WL.e ?_
   rcases condE hy11 with ⟨hc15, hy11⟩ | ⟨hc15, hy11⟩
   ·refine WP.condT rfl hc15<|WP.skip<|WP.s<|WP.block<|WP.s<|WP.s<|WP.g<|WL.m (int i_5) h6<|WL.w (R.gtr rfl rfl)<|WL.e ?_
    obtain ⟨s_18, hj21, hy11⟩ := bindE hy11
    refine WP.cut (fun f w => ∃ (H16 : Hp), f 0 = vp_members ∧ f 3 = (str s_18) ∧ f 4 = (int i_5) ∧ Sl (α := Str) H16 vp_members p_members ∧ St w0 H0 w H16 []) ?_ ?_
    ·rcases condE hj21 with ⟨hc23, hj21⟩ | ⟨hc23, hj21⟩
     ·refine WP.condT rfl hc23<|WP.g<|WL.m (str s_3) h4 ?_
      obtain ⟨s24, hs24, hj21⟩ := bindE hj21
      refine WL.w (R.cat (a := s_3) (b := [44, 32]) rfl rfl hs24)<|WL.a (str s24) rfl<|WL.e ?_
      obtain rfl := oi hj21
      exact ⟨H1, h2, rfl, h6, Rp_members, S⟩
     ·refine WP.condF rfl hc23<|WP.skip ?_
      obtain rfl := oi hj21
      exact ⟨H1, h2, h4, h6, Rp_members, S⟩
    ·rintro f w ⟨H16, h17, h19, h20, Rp_members, S⟩
     refine WP.g<|WL.m (str s_18) h19<|WL.m (vp_members) h17<|WL.m (int i_5) h20 ?_
     obtain ⟨x25, hx25, hy11⟩ := bindE hy11
     refine W.idx (α := Str) Rp_members rfl rfl el23 hx25 ?_
     rintro a26 _ hA27 rfl
     refine WL.w (R.loadH (v := str x25) S rfl hA27 lay9 rfl) ?_
     obtain ⟨s28, hs28, hy11⟩ := bindE hy11
     refine WL.w (R.cat (a := s_18) (b := x25) rfl rfl hs28)<|WL.a (str s28) rfl<|WL.e<|WP.g<|WL.m (int i_5) h20<|WL.w (R.add rfl rfl)<|WL.a (int (wr (i_5 + 1))) rfl<|WL.e ?_
     obtain rfl := oi hy11
     exact ⟨rfl, ⟨H16, h17, rfl, rfl, Rp_members, S⟩⟩
   ·refine WP.condF rfl hc15<|WP.exit ?_
    obtain rfl := oi hy11
    obtain rfl := hy12
    exact ⟨H1, h4, S⟩
 ·rintro f w ⟨H7, h9, S⟩
  refine WP.s<|WP.g<|WL.m (str s_8) h9<|WL.a (str s_8) rfl<|WL.e ?_
  obtain rfl := oi h
  refine WP.ret (Out.one rfl S rfl ?_)
  exact rfl
end Go.Proofs
