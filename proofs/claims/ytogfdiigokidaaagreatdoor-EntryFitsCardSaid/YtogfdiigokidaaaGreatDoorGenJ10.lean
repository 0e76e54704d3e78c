/- A part of the proof of laws of the seat: written by program over the translation. -/
import Derived.Test.YtogfdiigokidaaaGreatDoorPure1
import Derived.Test.YtogfdiigokidaaaGreatDoorGenJ9
namespace Go.Proofs
set_option maxHeartbeats 4000000
set_option maxRecDepth 10000
open Go.Eng Go.Eng.Pure
set_option linter.unusedVariables false
theorem ref10_SameStrings_ok {w0 : World} {H0 : Hp} (hw : Holds w0 H0) (hG : Tryz.Gl w0) (p_a : (List Str)) (p_b : (List Str)) {vp_a : Value} {vp_b : Value} (Rp_a : Sl (α := Str) H0 vp_a p_a) (Rp_b : Sl (α := Str) H0 vp_b p_b) {r : Bool} (h : ref10_SameStrings p_a p_b = some r) :
  Con Tryz.prog 55 [vp_a, vp_b] w0 H0 (fun H' v => v = (boo r)) := by
 refine Con.mk (N := 26) Tryz.func55 rfl rfl (by kernel_rfl) rfl ?_
 have S := St.start hw
 refine WP.s<|WP.g<|WL.a (boo false) rfl<|WL.e<|WP.s<|WP.s<|WP.g<|WL.m (vp_a) rfl<|WL.w (R.lenL (α := Str) (xs := p_a) (H := H0) Rp_a rfl Tryz.underlying23)<|WL.m (vp_b) rfl<|WL.w (R.lenL (α := Str) (xs := p_b) (H := H0) Rp_b rfl Tryz.underlying23)<|WL.w (R.neq rfl rfl) ?_
 refine WL.e ?_
 rcases condE h with ⟨hc1, h⟩ | ⟨hc1, h⟩
 ·refine WP.condT rfl hc1<|WP.s<|WP.g<|WL.a (boo false) rfl<|WL.e ?_
  obtain rfl := oi h
  refine WP.ret (Out.one rfl S rfl ?_)
  exact rfl
 ·refine WP.condF rfl hc1<|WP.skip<|WP.s<|WP.s<|WP.g<|WL.a (int 0) rfl<|WL.e ?_
  obtain ⟨r11, hr12, h⟩ := bindE h
  refine WP.cut (fun f w => match r11 with | .inl _ => ∃ (H7 : Hp), St w0 H0 w H7 [] | .inr _ => False) ?_ ?_
  ·refine WP.block ?_
   refine WP.loopM (ref10_SameStrings_L0 p_a p_b) (fun s f w => match s with | i_5 => ∃ (H2 : Hp), f 0 = vp_a ∧ f 1 = vp_b ∧ f 5 = (int i_5) ∧ Sl (α := Str) H2 vp_a p_a ∧ Sl (α := Str) H2 vp_b p_b ∧ St w0 H0 w H2 []) 0 r11 hr12 ?_ ?_
   ·exact ⟨H0, rfl, rfl, rfl, Rp_a, Rp_b, S⟩
   ·intro i_5 f w hI y8 hy9 hy10
    obtain ⟨H2, h3, h4, h6, Rp_a, Rp_b, S⟩ := hI
    refine WP.s<|WP.s<|WP.g<|WL.m (int i_5) h6<|WL.m (vp_a) h3<|WL.w (R.lenL (α := Str) (xs := p_a) (H := H2) Rp_a rfl Tryz.underlying23)<|WL.w (R.lss rfl rfl)<|WL.e ?_
    rcases condE hy9 with ⟨hc13, hy9⟩ | ⟨hc13, hy9⟩
    ·refine WP.condT rfl hc13<|WP.skip<|WP.s<|WP.block<|WP.s<|WP.quiet S (by kernel_rfl) (by kernel_rfl)<|WQ.val (fun _ _ => (R.mv (v := vp_a) h3))<|WQ.val (fun _ _ => (R.mv (v := int i_5) h6)) ?_
     obtain ⟨x17, hx17, hy9⟩ := bindE hy9
     refine WQ.idx (α := Str) Rp_a rfl rfl el23 hx17 ?_
     rintro a18 _ hA19 rfl
     refine WQ.val (fun w hw => by obtain ⟨_, hq, S⟩ := hw; exact (R.loadH (v := str x17) S rfl (At.mono hA19 hq (by simp)) lay9 rfl))<|WQ.val (fun _ _ => (R.mv (v := vp_b) h4))<|WQ.val (fun _ _ => (R.mv (v := int i_5) h6)) ?_
     obtain ⟨x20, hx20, hy9⟩ := bindE hy9
     refine WQ.idx (α := Str) Rp_b rfl rfl el23 hx20 ?_
     rintro a21 _ hA22 rfl
     refine WQ.val (fun w hw => by obtain ⟨_, hq, S⟩ := hw; exact (R.loadH (v := str x20) S rfl (At.mono hA22 hq (by simp)) lay9 rfl))<|WQ.val (fun _ _ => (R.neqS (a := x17) (b := x20) rfl rfl))<|WQ.nil ?_
     intro w14 H15 hle16 S
     have Rp_a := Sl.mono Rp_a hle16
     have Rp_b := Sl.mono Rp_b hle16
     rcases condE hy9 with ⟨hc23, hy9⟩ | ⟨hc23, hy9⟩
     ·refine WP.condT rfl hc23<|WP.s<|WP.g<|WL.a (boo false) rfl<|WL.e ?_
      obtain rfl := oi hy9
      obtain rfl := hy10
      obtain rfl := oi h
      refine WP.ret (Out.one rfl S rfl ?_)
      exact rfl
     ·refine WP.condF rfl hc23<|WP.skip<|WP.g<|WL.m (int i_5) h6<|WL.w (R.add rfl rfl)<|WL.a (int (wr (i_5 + 1))) rfl<|WL.e ?_
      obtain rfl := oi hy9
      exact ⟨rfl, ⟨H15, h3, h4, rfl, Rp_a, Rp_b, S⟩⟩
    ·refine WP.condF rfl hc13<|WP.exit ?_
     obtain rfl := oi hy9
     obtain rfl := hy10
     exact ⟨H2, S⟩
  ·intro f w hM
   rcases r11 with _ | e
   ·obtain ⟨H7, S⟩ := hM
    refine WP.s<|WP.g<|WL.a (boo true) rfl<|WL.e ?_
    obtain rfl := oi h
    refine WP.ret (Out.one rfl S rfl ?_)
    exact rfl
   ·exact hM.elim
theorem ref01_Join_ok {w0 : World} {H0 : Hp} (hw : Holds w0 H0) (hG : Tryz.Gl w0) (p_members : (List Str)) {vp_members : Value} (Rp_members : Sl (α := Str) H0 vp_members p_members) {r : Str} (h : ref01_Join p_members = some r) :
  Con Tryz.prog 150 [vp_members] w0 H0 (fun H' v => v = (str r)) := by
 refine Con.mk (N := 22) Tryz.func150 rfl rfl (by kernel_rfl) rfl ?_
 have S := St.start hw
 refine WP.s<|WP.g<|WL.a (str []) rfl<|WL.e<|WP.s<|WP.g<|WL.a (str []) rfl<|WL.e<|WP.s<|WP.s<|WP.g<|WL.a (int 0) rfl ?_
 refine WL.e ?_
 obtain ⟨s_8, hr14, h⟩ := bindE h
 refine WP.cut (fun f w => ∃ (H7 : Hp), f 3 = (str s_8) ∧ St w0 H0 w H7 []) ?_ ?_
 ·refine WP.block ?_
  refine WP.loopM (ref01_Join_L0 p_members) (fun s f w => match s with | (s_3, i_5) => ∃ (H1 : Hp), f 0 = vp_members ∧ f 3 = (str s_3) ∧ f 4 = (int i_5) ∧ Sl (α := Str) H1 vp_members p_members ∧ St w0 H0 w H1 []) ([], 0) s_8 hr14 ?_ ?_
  ·exact ⟨H0, rfl, rfl, rfl, Rp_members, S⟩
  ·intro s f w hI y10 hy11 hy12
   obtain ⟨s_3, i_5⟩ := s
   obtain ⟨H1, h2, h4, h6, Rp_members, S⟩ := hI
   refine WP.s<|WP.s<|WP.g<|WL.m (int i_5) h6<|WL.m (vp_members) h2<|WL.w (R.lenL (α := Str) (xs := p_members) (H := H1) Rp_members rfl Tryz.underlying23)<|WL.w (R.lss rfl rfl)<|WL.e ?_
   rcases condE hy11 with ⟨hc15, hy11⟩ | ⟨hc15, hy11⟩
   ·refine WP.condT rfl hc15<|WP.skip<|WP.s<|WP.block<|WP.s<|WP.s<|WP.g<|WL.m (int i_5) h6<|WL.w (R.gtr rfl rfl)<|WL.e ?_
    obtain ⟨s_18, hj21, hy11⟩ := bindE hy11
    refine WP.cut (fun f w => ∃ (H16 : Hp), f 0 = vp_members ∧ f 3 = (str s_18) ∧ f 4 = (int i_5) ∧ Sl (α := Str) H16 vp_members p_members ∧ St w0 H0 w H16 []) ?_ ?_
    ·rcases condE hj21 with ⟨hc23, hj21⟩ | ⟨hc23, hj21⟩
     ·refine WP.condT rfl hc23<|WP.g<|WL.m (str s_3) h4 ?_
      obtain ⟨s24, hs24, hj21⟩ := bindE hj21
      refine WL.w (R.cat (a := s_3) (b := [44, 32]) rfl rfl hs24)<|WL.a (str s24) rfl<|WL.e ?_
      obtain rfl := oi hj21
      exact ⟨H1, h2, rfl, h6, Rp_members, S⟩
     ·refine WP.condF rfl hc23<|WP.skip ?_
      obtain rfl := oi hj21
      exact ⟨H1, h2, h4, h6, Rp_members, S⟩
    ·rintro f w ⟨H16, h17, h19, h20, Rp_members, S⟩
     refine WP.g<|WL.m (str s_18) h19<|WL.m (vp_members) h17<|WL.m (int i_5) h20 ?_
     obtain ⟨x25, hx25, hy11⟩ := bindE hy11
     refine W.idx (α := Str) Rp_members rfl rfl el23 hx25 ?_
     rintro a26 _ hA27 rfl
     refine WL.w (R.loadH (v := str x25) S rfl hA27 lay9 rfl) ?_
     obtain ⟨s28, hs28, hy11⟩ := bindE hy11
     refine WL.w (R.cat (a := s_18) (b := x25) rfl rfl hs28)<|WL.a (str s28) rfl<|WL.e<|WP.g<|WL.m (int i_5) h20<|WL.w (R.add rfl rfl)<|WL.a (int (wr (i_5 + 1))) rfl<|WL.e ?_
     obtain rfl := oi hy11
     exact ⟨rfl, ⟨H16, h17, rfl, rfl, Rp_members, S⟩⟩
   ·refine WP.condF rfl hc15<|WP.exit ?_
    obtain rfl := oi hy11
    obtain rfl := hy12
    exact ⟨H1, h4, S⟩
 ·rintro f w ⟨H7, h9, S⟩
  refine WP.s<|WP.g<|WL.m (str s_8) h9<|WL.a (str s_8) rfl<|WL.e ?_
  obtain rfl := oi h
  refine WP.ret (Out.one rfl S rfl ?_)
  exact rfl
end Go.Proofs
