/- A part of the proof of laws of the seat: written by program over the translation. -/
import Derived.Test.YtogfdiigokidaaaGreatDoorEng31
import Derived.Test.YtogfdiigokidaaaGreatDoorGenJ4
namespace Go.Proofs
set_option maxHeartbeats 4000000
set_option maxRecDepth 10000
open Go.Eng Go.Eng.Pure
set_option linter.unusedVariables false
theorem variants_Parse_ok {w0 : World} {H0 : Hp} (hw : Holds w0 H0) (hG : Tryz.Gl w0) (p_l : (List GField)) {vp_l : Value} (Rp_l : Sl (α := GField) H0 vp_l p_l) {r : ((List GAxis) × Int)} (h : variants_Parse p_l = some r) :
  Con Tryz.prog 46 [vp_l] w0 H0 (fun H' v => ∃ u1 : Value, v = (.tuple ⟨[u1, (int r.2)]⟩) ∧ Sl (α := GAxis) H' u1 r.1) := by
 refine Con.mk (N := 52) Tryz.func46 rfl rfl (by kernel_rfl) rfl ?_
 have S := St.start hw
 refine WP.s<|WP.g<|WL.a (.slice none 0 0) rfl<|WL.a (int 0) rfl<|WL.e<|WP.s<|WP.s<|WP.g<|WL.m (vp_l) rfl ?_
 obtain ⟨r1, hr1, h⟩ := bindE h
 refine W.call S rfl (fieldline_Has_ok S.holds (hG.post S.post) p_l [86, 97, 114, 105, 97, 110, 116, 115] Rp_l hr1) ?_
 rintro v2 w3 H4 hle5 S rfl
 have Rp_l := Sl.mono Rp_l hle5
 refine WL.w (R.not rfl)<|WL.e ?_
 rcases condE h with ⟨hc6, h⟩ | ⟨hc6, h⟩
 ·refine WP.condT rfl hc6<|WP.s<|WP.g<|WL.a (.slice none 0 0) rfl<|WL.a (int 12) rfl<|WL.e ?_
  obtain rfl := oi h
  refine WP.ret (Out.two rfl S rfl rfl ?_)
  exact ⟨_, rfl, Sl.nil⟩
 ·refine WP.condF rfl hc6<|WP.skip<|WP.s<|WP.g<|WL.a (.slice none 0 0) rfl<|WL.e<|WP.s<|WP.s<|WP.g<|WL.m (vp_l) rfl ?_
  obtain ⟨r7, hr7, h⟩ := bindE h
  refine W.call S rfl (list_All_ok S.holds (hG.post S.post) p_l [86, 97, 114, 105, 97, 110, 116, 115] Rp_l hr7) ?_
  rintro v8 w9 H10 hle11 S R12
  refine WL.w (R.lenL (α := Str) (xs := r7) (H := H10) R12 rfl Tryz.underlying23)<|WL.m (int 0) rfl<|WL.e ?_
  have S := S.addNil 84 2
  obtain ⟨r30, hr31, h⟩ := bindE h
  refine WP.cut (fun f w => match r30 with | .inl out_23 => ∃ (H22 : Hp) (v24 : Value), f 4 = v24 ∧ Sl (α := GAxis) H22 v24 out_23 ∧ St w0 H0 w H22 [.row v24 84 2 out_23.length] | .inr _ => False) ?_ ?_
  ·refine WP.block ?_
   refine WP.loopM (variants_Parse_L0 r7) (fun s f w => match s with | (out_14, y_20) => ∃ (H13 : Hp) (v15 : Value), f 4 = v15 ∧ f 16 = v8 ∧ f 17 = (int (r7.length : Int)) ∧ f 18 = (int y_20) ∧ Sl (α := GAxis) H13 v15 out_14 ∧ Sl (α := Str) H13 v8 r7 ∧ St w0 H0 w H13 [.row v15 84 2 out_14.length]) (([] : List GAxis), 0) r30 hr31 ?_ ?_
   ·exact ⟨H10, .slice none 0 0, rfl, rfl, rfl, rfl, Sl.nil, R12, S⟩
   ·intro s f w hI y27 hy28 hy29
    obtain ⟨out_14, y_20⟩ := s
    obtain ⟨H13, v15, h17, h18, h19, h21, R16, R12, S⟩ := hI
    refine WP.s<|WP.g<|WL.w (R.lss h21 h19)<|WL.e<|WP.s ?_
    rcases condE hy28 with ⟨hc32, hy28⟩ | ⟨hc32, hy28⟩
    ·refine WP.condT rfl hc32<|WP.skip<|WP.s<|WP.block<|WP.s<|WP.g ?_
     obtain ⟨x33, hx33, hy28⟩ := bindE hy28
     refine W.idx (α := Str) R12 h18 h21 el23 hx33 ?_
     rintro a34 _ hA35 rfl
     refine WL.w (R.loadH (v := str x33) S rfl hA35 lay9 rfl)<|WL.a (str x33) rfl<|WL.e<|WP.s<|WP.g<|WL.m (str x33) rfl ?_
     obtain ⟨r36, hr36, hy28⟩ := bindE hy28
     refine W.call S rfl (strings_Cut_ok S.holds (hG.post S.post) x33 [61] hr36) ?_
     rintro v37 w38 H39 hle40 S rfl
     have R16 := Sl.mono R16 hle40
     have R12 := Sl.mono R12 hle40
     refine WL.m (.tuple ⟨[(str r36.1), (str r36.2.1), (boo r36.2.2)]⟩) rfl<|WL.w (R.ext rfl rfl)<|WL.w (R.ext rfl rfl)<|WL.w (R.ext rfl rfl)<|WL.a (str r36.1) rfl<|WL.a (str r36.2.1) rfl<|WL.a (boo r36.2.2) rfl<|WL.e<|WP.s<|WP.g<|WL.m (str r36.2.1) rfl ?_
     obtain ⟨r41, hr41, hy28⟩ := bindE hy28
     refine W.call S rfl (group_Read_ok S.holds (hG.post S.post) r36.2.1 hr41) ?_
     rintro v42 w43 H44 hle45 S ⟨u46, rfl, R47⟩
     have R16 := Sl.mono R16 hle45
     have R12 := Sl.mono R12 hle45
     refine WL.m (.tuple ⟨[u46, (boo r41.2)]⟩) rfl<|WL.w (R.ext rfl rfl)<|WL.w (R.ext rfl rfl)<|WL.a (u46) rfl<|WL.a (boo r41.2) rfl<|WL.e<|WP.s<|WP.s<|WP.g<|WL.m (boo r41.2) rfl<|WL.w (R.not rfl)<|WL.m (boo (!r41.2)) rfl ?_
     obtain ⟨b55, hg49, hy28⟩ := bindE hy28
     refine WL.grpw 4 [36, 37, 38] 39 (boo b55) (fun w => ∃ H' : Hp, H44.le H' ∧ St w0 H0 w H' [.row v15 84 2 out_14.length]) ?_ ?_
     ·rcases boolE (!r41.2) with hb48 | hb48
      ·replace hg49 := condT hg49 hb48
       refine WL.n rfl rfl hb48<|WL.n rfl rfl hb48<|WL.n rfl rfl hb48<|WL.w (R.pickT rfl hb48 rfl) ?_
       exact WL.e ⟨(congrArg boo (oi hg49)), ag, ⟨H44, (Hp.le.refl _), S⟩⟩
      ·replace hg49 := condF hg49 hb48
       refine WL.y rfl rfl hb48<|WL.m (str r36.1) rfl<|WL.y rfl rfl hb48 ?_
       obtain ⟨r50, hr50, hg49⟩ := bindE hg49
       refine W.call S rfl (ascii_Token_ok S.holds (hG.post S.post) r36.1 hr50) ?_
       rintro v51 w52 H53 hle54 S rfl
       have R16 := Sl.mono R16 hle54
       have R12 := Sl.mono R12 hle54
       have R47 := Sl.mono R47 hle54
       refine WL.y rfl rfl hb48<|WL.w (R.not rfl)<|WL.w (R.pickF rfl hb48 rfl) ?_
       exact WL.e ⟨(congrArg boo (oi hg49)), ag, ⟨H53, hle54, S⟩⟩
     ·intro us w57 ⟨H56, hle58, S⟩
      have R16 := Sl.mono R16 hle58
      have R12 := Sl.mono R12 hle58
      have R47 := Sl.mono R47 hle58
      refine WL.e ?_
      rcases condE hy28 with ⟨hc59, hy28⟩ | ⟨hc59, hy28⟩
      ·refine WP.condT rfl hc59<|WP.s<|WP.g<|WL.a (.slice none 0 0) rfl<|WL.a (int 1) rfl<|WL.e ?_
       obtain rfl := oi hy28
       obtain rfl := hy29
       obtain rfl := oi h
       refine WP.ret (Out.two rfl S rfl rfl ?_)
       exact ⟨_, rfl, Sl.nil⟩
      ·refine WP.condF rfl hc59<|WP.skip<|WP.g<|WL.m (v15) h17<|WL.m (str r36.1) rfl ?_
       obtain ⟨r60, hr60, hy28⟩ := bindE hy28
       refine W.call S rfl (ascii_Lower_ok S.holds (hG.post S.post) r36.1 hr60) ?_
       rintro v61 w62 H63 hle64 S rfl
       have R16 := Sl.mono R16 hle64
       have R12 := Sl.mono R12 hle64
       have R47 := Sl.mono R47 hle64
       refine WL.m (u46) rfl<|WL.w (R.build [(0, (str r60)), (1, u46)] [(str r60), u46] bp84 zer84 rfl (by obtain ⟨_, _, rfl, _⟩ := R47; rfl))<|W.bslice (α := GAxis) [(agg [(str r60), u46])] ([(⟨r60, r41.1⟩ : GAxis)] : List GAxis) S el43 rfl rfl rfl (by decide) (Go.Eng.encS ⟨rfl, _, rfl, R47⟩ enc0) ?_
       intro u65 w66 H67 hle68 R69 S
       have R16 := Sl.mono R16 hle68
       have R12 := Sl.mono R12 hle68
       obtain ⟨l70, hl70, hy28⟩ := bindE hy28
       refine W.app (α := GAxis) (i := 1) S el43 rfl rfl rfl R16 R69 hl70 ?_
       intro v71 w72 H73 hle74 R75 S
       have R16 := Sl.mono R16 hle74
       have R12 := Sl.mono R12 hle74
       refine WL.a (v71) rfl<|WL.e<|WP.g<|WL.w (R.add h21 rfl)<|WL.m (int (wr (y_20 + 1))) rfl<|WL.e ?_
       obtain rfl := oi hy28
       exact ⟨rfl, ⟨H73, v71, rfl, h18, h19, rfl, R75, R12, (S.drop _ (.cons _ (.cons_cons _ .slnil)))⟩⟩
    ·refine WP.condF rfl hc32<|WP.exit ?_
     obtain rfl := oi hy28
     obtain rfl := hy29
     exact ⟨H13, v15, h17, R16, S⟩
  ·intro f w hM
   rcases r30 with out_23 | e
   ·obtain ⟨H22, v24, h26, R25, S⟩ := hM
    refine WP.s<|WP.s<|WP.g<|WL.m (v24) h26 ?_
    obtain ⟨r76, hr76, h⟩ := bindE h
    refine W.call S rfl (variants_Valid_ok S.holds (hG.post S.post) out_23 R25 hr76) ?_
    rintro v77 w78 H79 hle80 S rfl
    have R25 := Sl.mono R25 hle80
    refine WL.w (R.not rfl)<|WL.e ?_
    rcases condE h with ⟨hc81, h⟩ | ⟨hc81, h⟩
    ·refine WP.condT rfl hc81<|WP.s<|WP.g<|WL.a (.slice none 0 0) rfl<|WL.a (int 11) rfl<|WL.e ?_
     obtain rfl := oi h
     refine WP.ret (Out.two rfl S rfl rfl ?_)
     exact ⟨_, rfl, Sl.nil⟩
    ·refine WP.condF rfl hc81<|WP.skip<|WP.s<|WP.g<|WL.m (v24) h26<|WL.a (v24) rfl<|WL.a (int 0) rfl<|WL.e ?_
     obtain rfl := oi h
     refine WP.ret (Out.two rfl S rfl rfl ?_)
     exact ⟨_, rfl, R25⟩
   ·exact hM.elim
theorem variants_Same_ok {w0 : World} {H0 : Hp} (hw : Holds w0 H0) (hG : Tryz.Gl w0) (p_axis : Str) (p_a : Str) (p_b : Str) {r : Bool} (h : variants_Same p_axis p_a p_b = some r) :
  Con Tryz.prog 138 [(str p_axis), (str p_a), (str p_b)] w0 H0 (fun H' v => v = (boo r)) := by
 refine Con.mk (N := 29) Tryz.func138 rfl rfl (by kernel_rfl) rfl ?_
 have S := St.start hw
 refine WP.s<|WP.g<|WL.a (boo false) rfl<|WL.e<|WP.s<|WP.g<|WL.m (str p_axis) rfl ?_
 obtain ⟨r1, hr1, h⟩ := bindE h
 refine W.call S rfl (variants_domainOf_ok S.holds (hG.post S.post) p_axis hr1) ?_
 rintro v2 w3 H4 hle5 S rfl
 refine WL.a (Tryz.vvariants_domain r1) rfl<|WL.e<|WP.s<|WP.g<|WL.m (Tryz.vvariants_domain r1) rfl<|WL.m (str p_a) rfl ?_
 obtain ⟨r6, hr6, h⟩ := bindE h
 refine W.invoke S rfl rfl (variants_domain_form_ok S.holds (hG.post S.post) r1 p_a hr6) ?_
 rintro v7 w8 H9 hle10 S rfl
 refine WL.m (.tuple ⟨[(str r6.1), (boo r6.2)]⟩) rfl<|WL.w (R.ext rfl rfl)<|WL.w (R.ext rfl rfl)<|WL.a (str r6.1) rfl<|WL.a (boo r6.2) rfl<|WL.e<|WP.s<|WP.g<|WL.m (Tryz.vvariants_domain r1) rfl<|WL.m (str p_b) rfl ?_
 obtain ⟨r11, hr11, h⟩ := bindE h
 refine W.invoke S rfl rfl (variants_domain_form_ok S.holds (hG.post S.post) r1 p_b hr11) ?_
 rintro v12 w13 H14 hle15 S rfl
 refine WL.m (.tuple ⟨[(str r11.1), (boo r11.2)]⟩) rfl<|WL.w (R.ext rfl rfl)<|WL.w (R.ext rfl rfl)<|WL.a (str r11.1) rfl<|WL.a (boo r11.2) rfl<|WL.e<|WP.s<|WP.g<|WL.m (str r6.1) rfl<|WL.m (str r11.1) rfl<|WL.w (R.eqlS (a := r6.1) (b := r11.1) rfl rfl)<|WL.a (boo (r6.1 == r11.1)) rfl ?_
 refine WL.e ?_
 obtain rfl := oi h
 refine WP.ret (Out.one rfl S rfl ?_)
 exact rfl
theorem variantkey_resolve_1_ok {w0 : World} {H0 : Hp} (hw : Holds w0 H0) (hG : Tryz.Gl w0) (p_v : Str) (c_x0 : GAxis) (c_x1 : (List Str)) (c_x2 : Int) {vc_x01 : Value} {vc_x10 : Value} {ac_x0 : Addr} {ac_x1 : Addr} {ac_x2 : Addr} (Ac_x0 : At H0 ac_x0 [(str c_x0.fName), vc_x01]) (Rc_x01 : Sl (α := Str) H0 vc_x01 c_x0.fValues) (Ac_x1 : At H0 ac_x1 [vc_x10]) (Rc_x10 : Sl (α := Str) H0 vc_x10 c_x1) (Ac_x2 : At H0 ac_x2 [(int c_x2)]) {r : Bool} (h : variantkey_resolve_1 p_v c_x0 c_x1 c_x2 = some r) :
  Con Tryz.prog 137 [(str p_v), (.pointer (some ac_x0)), (.pointer (some ac_x1)), (.pointer (some ac_x2))] w0 H0 (fun H' v => v = (boo r)) := by
 refine Con.mk (N := 14) Tryz.func137 rfl rfl (by kernel_rfl) rfl ?_
 have S := St.start hw
 refine WP.s<|WP.g<|WL.a (boo false) rfl<|WL.e<|WP.s<|WP.quiet S (by kernel_rfl) (by kernel_rfl)<|WQ.val (fun _ _ => (R.field rfl fld84_0)) ?_
 have hA4 := At.add Ac_x0 0 (by simp)
 refine WQ.val (fun w hw => by obtain ⟨_, hq, S⟩ := hw; exact (R.loadH (v := str c_x0.fName) S rfl (At.mono hA4 hq (by simp)) lay9 rfl))<|WQ.val (fun _ _ => (R.mv (v := str p_v) rfl))<|WQ.val (fun w hw => by obtain ⟨_, hq, S⟩ := hw; exact (R.loadH (v := vc_x10) S rfl (At.mono Ac_x1 hq (by simp)) lay23 rfl))<|WQ.val (fun w hw => by obtain ⟨_, hq, S⟩ := hw; exact (R.loadH (v := int c_x2) S rfl (At.mono Ac_x2 hq (by simp)) lay3 rfl)) ?_
 obtain ⟨x5, hx5, h⟩ := bindE h
 refine WQ.idx (α := Str) Rc_x10 rfl rfl el23 hx5 ?_
 rintro a6 _ hA7 rfl
 refine WQ.val (fun w hw => by obtain ⟨_, hq, S⟩ := hw; exact (R.loadH (v := str x5) S rfl (At.mono hA7 hq (by simp)) lay9 rfl)) ?_
 obtain ⟨r8, hr8, h⟩ := bindE h
 refine WQ.call (v := boo r8) rfl (fun w H' hq S => variants_Same_ok S.holds (hG.post S.post) c_x0.fName p_v x5 hr8)<|WQ.val (fun _ _ => (R.as (v := boo r8) rfl))<|WQ.nil ?_
 intro w1 H2 hle3 S
 obtain rfl := oi h
 refine WP.ret (Out.one rfl S rfl ?_)
 exact rfl
theorem slices_IndexFunc_string_string_ok {w0 : World} {H0 : Hp} (hw : Holds w0 H0) (hG : Tryz.Gl w0) (p_s : (List Str)) (p_f : (Str → Option Bool)) {vp_s : Value} {kp_f : FuncId} {cp_f : List Value} (Rp_s : Sl (α := Str) H0 vp_s p_s) (Fp_f : ∀ {w : World} {H : Hp}, H0.le H → Holds w H → Tryz.Gl w → ∀ (x0 : Str) (rr : Bool), p_f x0 = some rr → Con Tryz.prog kp_f ([(str x0)] ++ cp_f) w H (fun H' v => v = (boo rr))) {r : Int} (h : slices_IndexFunc_string_string p_s p_f = some r) :
  Con Tryz.prog 136 [vp_s, (.func (.func kp_f) #[] cp_f.toArray)] w0 H0 (fun H' v => v = (int r)) := by
 refine Con.mk (N := 19) Tryz.func136 rfl rfl (by kernel_rfl) rfl ?_
 have S := St.start hw
 refine WP.s<|WP.g<|WL.a (int 0) rfl<|WL.e<|WP.s<|WP.s<|WP.g<|WL.m (vp_s) rfl<|WL.w (R.lenL (α := Str) (xs := p_s) (H := H0) Rp_s rfl Tryz.underlying23)<|WL.m (int 0) rfl<|WL.e ?_
 obtain ⟨r11, hr12, h⟩ := bindE h
 refine WP.cut (fun f w => match r11 with | .inl _ => ∃ (H7 : Hp), St w0 H0 w H7 [] | .inr _ => False) ?_ ?_
 ·refine WP.block ?_
  refine WP.loopM (slices_IndexFunc_string_string_L0 p_s p_f) (fun s f w => match s with | y_5 => ∃ (H1 : Hp), f 0 = vp_s ∧ f 1 = (.func (.func kp_f) #[] cp_f.toArray) ∧ f 7 = (int (p_s.length : Int)) ∧ f 8 = (int y_5) ∧ Sl (α := Str) H1 vp_s p_s ∧ St w0 H0 w H1 []) 0 r11 hr12 ?_ ?_
  ·exact ⟨H0, rfl, rfl, rfl, rfl, Rp_s, S⟩
  ·intro y_5 f w hI y8 hy9 hy10
   obtain ⟨H1, h2, h3, h4, h6, Rp_s, S⟩ := hI
   refine WP.s<|WP.g<|WL.w (R.lss h6 h4)<|WL.e<|WP.s ?_
   rcases condE hy9 with ⟨hc13, hy9⟩ | ⟨hc13, hy9⟩
   ·refine WP.condT rfl hc13<|WP.skip<|WP.s<|WP.block<|WP.s<|WP.g<|WL.m (int y_5) h6<|WL.a (int y_5) rfl<|WL.e<|WP.s<|WP.g<|WL.m (.func (.func kp_f) #[] cp_f.toArray) h3 ?_
    refine WL.m (vp_s) h2<|WL.m (int y_5) rfl ?_
    obtain ⟨x14, hx14, hy9⟩ := bindE hy9
    refine W.idx (α := Str) Rp_s rfl rfl el23 hx14 ?_
    rintro a15 _ hA16 rfl
    refine WL.w (R.loadH (v := str x14) S rfl hA16 lay9 rfl) ?_
    obtain ⟨r17, hr17, hy9⟩ := bindE hy9
    refine W.callv S rfl rfl (Fp_f (S.post.le) S.holds (hG.post S.post) x14 _ hr17) ?_
    rintro v18 w19 H20 hle21 S rfl
    have Rp_s := Sl.mono Rp_s hle21
    refine WL.e ?_
    rcases condE hy9 with ⟨hc22, hy9⟩ | ⟨hc22, hy9⟩
    ·refine WP.condT rfl hc22<|WP.s<|WP.g<|WL.m (int y_5) rfl<|WL.a (int y_5) rfl<|WL.e ?_
     obtain rfl := oi hy9
     obtain rfl := hy10
     obtain rfl := oi h
     refine WP.ret (Out.one rfl S rfl ?_)
     exact rfl
    ·refine WP.condF rfl hc22<|WP.skip<|WP.g<|WL.w (R.add h6 rfl)<|WL.m (int (wr (y_5 + 1))) rfl<|WL.e ?_
     obtain rfl := oi hy9
     exact ⟨rfl, ⟨H20, h2, h3, h4, rfl, Rp_s, S⟩⟩
   ·refine WP.condF rfl hc13<|WP.exit ?_
    obtain rfl := oi hy9
    obtain rfl := hy10
    exact ⟨H1, S⟩
 ·intro f w hM
  rcases r11 with _ | e
  ·obtain ⟨H7, S⟩ := hM
   refine WP.s<|WP.g<|WL.a (int (-1)) rfl<|WL.e ?_
   obtain rfl := oi h
   refine WP.ret (Out.one rfl S rfl ?_)
   exact rfl
  ·exact hM.elim
theorem variantkey_resolve_ok {w0 : World} {H0 : Hp} (hw : Holds w0 H0) (hG : Tryz.Gl w0) (p_axes : (List GAxis)) (p_key : (List Str)) {vp_axes : Value} {vp_key : Value} (Rp_axes : Sl (α := GAxis) H0 vp_axes p_axes) (Rp_key : Sl (α := Str) H0 vp_key p_key) {r : ((List Str) × Bool)} (h : variantkey_resolve p_axes p_key = some r) :
  Con Tryz.prog 90 [vp_axes, vp_key] w0 H0 (fun H' v => ∃ u1 : Value, v = (.tuple ⟨[u1, (boo r.2)]⟩) ∧ Sl (α := Str) H' u1 r.1) := by
 refine Con.mk (N := 41) Tryz.func90 rfl rfl (by kernel_rfl) rfl ?_
 have S := St.start hw
 refine WP.s<|WP.g<|W.box [vp_key] S rfl (congrArg Array.toList (Sl.cellsOne Rp_key)) ?_
 intro b1 w2 S
 refine WL.a (.slice none 0 0) rfl<|WL.a (boo false) rfl<|WL.e<|WP.s<|WP.s<|WP.g<|WL.w (R.loadB (i := 0) (v := vp_key) S rfl rfl lay23 rfl)<|WL.w (R.lenL (α := Str) (xs := p_key) (H := H0) Rp_key rfl Tryz.underlying23)<|WL.m (vp_axes) rfl<|WL.w (R.lenL (α := GAxis) (xs := p_axes) (H := H0) Rp_axes rfl Tryz.underlying43)<|WL.w (R.neq rfl rfl)<|WL.e ?_
 rcases condE h with ⟨hc3, h⟩ | ⟨hc3, h⟩
 ·refine WP.condT rfl hc3<|WP.s<|WP.g<|WL.a (.slice none 0 0) rfl<|WL.a (boo false) rfl<|WL.e ?_
  obtain rfl := oi h
  refine WP.ret (Out.two rfl S rfl rfl ?_)
  exact ⟨_, rfl, Sl.nil⟩
 ·refine WP.condF rfl hc3<|WP.skip<|WP.s<|WP.g<|WL.w (R.loadB (i := 0) (v := vp_key) S rfl rfl lay23 rfl)<|WL.w (R.lenL (α := Str) (xs := p_key) (H := H0) Rp_key rfl Tryz.underlying23) ?_
  obtain ⟨l4, hl4, h⟩ := bindE h
  refine W.makeSlice (α := Str) (zv := (str [])) (z := []) S el23 rfl rfl rfl zer9 rfl hl4 ?_
  intro b5 w6 ms7 n8 hL9 R10 S
  refine WL.a (.slice (some ⟨b5, 0, none⟩) n8 n8) rfl<|WL.e<|WP.s<|WP.s<|WP.g<|WL.m (vp_axes) rfl<|WL.w (R.lenL (α := GAxis) (xs := p_axes) (H := H0) Rp_axes rfl Tryz.underlying43)<|WL.m (int 0) rfl<|WL.e ?_
  obtain ⟨H11, hle12, hs13, _, S⟩ := S.settle (i := 1) rfl
  replace S : St w0 H0 _ H11 [.box b5 9 ms7] := S
  have hA14 : At H11 ⟨b1, 0, none⟩ [vp_key] := ⟨_, _, rfl, hs13, [], by simp⟩
  have Rp_axes := Sl.mono Rp_axes hle12
  have Rp_key := Sl.mono Rp_key hle12
  have R10 := Ms.mono R10 hle12
  obtain ⟨r35, hr36, h⟩ := bindE h
  refine WP.cut (fun f w => match r35 with | .inl m28 => ∃ (H26 : Hp) (ms29 : List Value), f 6 = (.slice (some ⟨b5, 0, none⟩) n8 n8) ∧ Ms (α := Str) H26 ms29 m28 ∧ m28.length = n8 ∧ St w0 H0 w H26 [.box b5 9 ms29] | .inr _ => False) ?_ ?_
  ·refine WP.block ?_
   refine WP.loopM (variantkey_resolve_L0 p_axes p_key) (fun s f w => match s with | (y_20, m22) => ∃ (H15 : Hp) (ms23 : List Value), f 3 = (.pointer (some ⟨b1, 0, none⟩)) ∧ f 6 = (.slice (some ⟨b5, 0, none⟩) n8 n8) ∧ f 18 = vp_axes ∧ f 19 = (int (p_axes.length : Int)) ∧ f 20 = (int y_20) ∧ At H15 ⟨b1, 0, none⟩ [vp_key] ∧ Sl (α := Str) H15 vp_key p_key ∧ Sl (α := GAxis) H15 vp_axes p_axes ∧ Ms (α := Str) H15 ms23 m22 ∧ m22.length = n8 ∧ St w0 H0 w H15 [.box b5 9 ms23]) (0, l4) r35 hr36 ?_ ?_
   ·exact ⟨H11, ms7, rfl, rfl, rfl, rfl, rfl, hA14, Rp_key, Rp_axes, R10, hL9, S⟩
   ·intro s f w hI y32 hy33 hy34
    obtain ⟨y_20, m22⟩ := s
    obtain ⟨H15, ms23, h16, h17, h18, h19, h21, hA14, Rp_key, Rp_axes, R24, hL25, S⟩ := hI
    refine WP.s<|WP.g<|WL.w (R.lss h21 h19)<|WL.e<|WP.s ?_
    rcases condE hy33 with ⟨hc37, hy33⟩ | ⟨hc37, hy33⟩
    ·refine WP.condT rfl hc37<|WP.skip<|WP.s<|WP.block<|WP.s<|WP.g<|WL.m (int y_20) h21 ?_
     obtain ⟨x38, hx38, hy33⟩ := bindE hy33
     refine W.idx (α := GAxis) Rp_axes h18 h21 el43 hx38 ?_
     rintro a39 _ hA40 ⟨v41, rfl, R42⟩
     refine WL.w (R.loadHN (vs := [(str x38.fName), v41]) S rfl hA40 lay84 rfl rfl)<|W.alloc [(int 0)] S zer3 ?_
     intro b43 w44 S
     refine W.alloc [(str []), (.slice none 0 0)] S zer84 ?_
     intro b45 w46 S
     refine W.store (i := 1) [(int y_20)] S rfl rfl rfl lay3 rfl rfl (Nat.le_of_ble_eq_true rfl) rfl ?_
     intro w47 S
     refine W.store (i := 0) [(str x38.fName), v41] S rfl rfl rfl lay84 rfl (AllOne.all (l := [(str x38.fName), v41]) (.cons rfl (.cons (Sl.oneC R42) .nil))) (Nat.le_of_ble_eq_true rfl) rfl ?_
     intro w48 S
     refine WL.e<|WP.s<|WP.g<|WL.w (R.fieldB rfl fld84_1)<|WL.w (R.loadB (i := 0) (v := v41) S rfl rfl lay23 rfl) ?_
     obtain ⟨H49, hle50, hs51, _, S⟩ := S.settle (i := 0) rfl
     replace S : St w0 H0 _ H49 [.box b43 3 [(int y_20)], .box b5 9 ms23] := S
     have hA52 : At H49 ⟨b45, 0, none⟩ [(str x38.fName), v41] := ⟨_, _, rfl, hs51, [], by simp⟩
     have hA14 := At.mono hA14 hle50 (by simp)
     have Rp_key := Sl.mono Rp_key hle50
     have Rp_axes := Sl.mono Rp_axes hle50
     have R42 := Sl.mono R42 hle50
     have R24 := Ms.mono R24 hle50
     obtain ⟨H53, hle54, hs55, _, S⟩ := S.settle (i := 0) rfl
     replace S : St w0 H0 _ H53 [.box b5 9 ms23] := S
     have hA56 : At H53 ⟨b43, 0, none⟩ [(int y_20)] := ⟨_, _, rfl, hs55, [], by simp⟩
     have hA14 := At.mono hA14 hle54 (by simp)
     have Rp_key := Sl.mono Rp_key hle54
     have Rp_axes := Sl.mono Rp_axes hle54
     have R42 := Sl.mono R42 hle54
     have hA52 := At.mono hA52 hle54 (by simp)
     have R24 := Ms.mono R24 hle54
     refine WL.w (R.mkFunc (vs := [(.pointer (some ⟨b45, 0, none⟩)), (.pointer (some ⟨b1, 0, none⟩)), (.pointer (some ⟨b43, 0, none⟩))]) (mapC rfl (mapC h16 (mapC rfl mapN)))) ?_
     obtain ⟨r57, hr57, hy33⟩ := bindE hy33
     refine W.call S rfl (slices_IndexFunc_string_string_ok S.holds (hG.post S.post) x38.fValues (fun x0 => variantkey_resolve_1 x0 x38 p_key y_20) R42 (fun hle hw hG x0 r h => variantkey_resolve_1_ok hw hG x0 x38 p_key y_20 (At.mono hA52 hle (by simp)) (Sl.mono R42 hle) (At.mono hA14 hle (by simp)) (Sl.mono Rp_key hle) (At.mono hA56 hle (by simp)) h) hr57) ?_
     rintro v58 w59 H60 hle61 S rfl
     have hA14 := At.mono hA14 hle61 (by simp)
     have Rp_key := Sl.mono Rp_key hle61
     have Rp_axes := Sl.mono Rp_axes hle61
     have R42 := Sl.mono R42 hle61
     have hA56 := At.mono hA56 hle61 (by simp)
     have hA52 := At.mono hA52 hle61 (by simp)
     have R24 := Ms.mono R24 hle61
     refine WL.a (int r57) rfl<|WL.e<|WP.s<|WP.s<|WP.g<|WL.m (int r57) rfl<|WL.w (R.lss rfl rfl)<|WL.e ?_
     rcases condE hy33 with ⟨hc62, hy33⟩ | ⟨hc62, hy33⟩
     ·refine WP.condT rfl hc62<|WP.s<|WP.g<|WL.a (.slice none 0 0) rfl<|WL.a (boo false) rfl<|WL.e ?_
      obtain rfl := oi hy33
      obtain rfl := hy34
      obtain rfl := oi h
      refine WP.ret (Out.two rfl S rfl rfl ?_)
      exact ⟨_, rfl, Sl.nil⟩
     ·refine WP.condF rfl hc62<|WP.skip<|WP.quietTail 8 S (by kernel_rfl) (by kernel_rfl)<|WQ.val (fun _ _ => (R.mv (v := .slice (some ⟨b5, 0, none⟩) n8 n8) h17))<|WQ.val (fun w hw => by obtain ⟨_, hq, S⟩ := hw; exact (R.loadH (v := int y_20) S rfl (At.mono hA56 hq (by simp)) lay3 rfl))<|WQ.val (fun _ _ => (R.field rfl fld84_1)) ?_
      have hA66 := At.add hA52 1 (by simp)
      refine WQ.val (fun w hw => by obtain ⟨_, hq, S⟩ := hw; exact (R.loadH (v := v41) S rfl (At.mono hA66 hq (by simp)) lay23 rfl))<|WQ.val (fun _ _ => (R.mv (v := int r57) rfl)) ?_
      obtain ⟨x67, hx67, hy33⟩ := bindE hy33
      refine WQ.idx (α := Str) R42 rfl rfl el23 hx67 ?_
      rintro a68 _ hA69 rfl
      refine WQ.val (fun w hw => by obtain ⟨_, hq, S⟩ := hw; exact (R.loadH (v := str x67) S rfl (At.mono hA69 hq (by simp)) lay9 rfl)) ?_
      obtain ⟨x70, hx70, hy33⟩ := bindE hy33
      refine WQ.val (fun _ _ => (R.idxM (α := Str) (xs := m22) rfl hL25 rfl el23 hx70))<|WQ.nil ?_
      intro w63 H64 hle65 S
      have hA14 := At.mono hA14 hle65 (by simp)
      have Rp_key := Sl.mono Rp_key hle65
      have Rp_axes := Sl.mono Rp_axes hle65
      have R24 := Ms.mono R24 hle65
      obtain ⟨l71, hl71, hy33⟩ := bindE hy33
      refine W.storeM (α := Str) (i := 0) (m := y_20) S R24 rfl rfl rfl lay9 rfl rfl hl71 ?_
      intro w72 ms73 R74 S
      have hL75 := (xput_len hl71).1.trans hL25
      refine WL.e<|WP.g<|WL.w (R.add h21 rfl)<|WL.m (int (wr (y_20 + 1))) rfl<|WL.e ?_
      obtain rfl := oi hy33
      exact ⟨rfl, ⟨H64, ms73, h16, h17, h18, h19, rfl, hA14, Rp_key, Rp_axes, R74, hL75, S⟩⟩
    ·refine WP.condF rfl hc37<|WP.exit ?_
     obtain rfl := oi hy33
     obtain rfl := hy34
     exact ⟨H15, ms23, h17, R24, hL25, S⟩
  ·intro f w hM
   rcases r35 with m28 | e
   ·obtain ⟨H26, ms29, h27, R30, hL31, S⟩ := hM
    refine WP.s<|WP.g<|WL.m (.slice (some ⟨b5, 0, none⟩) n8 n8) h27<|WL.a (.slice (some ⟨b5, 0, none⟩) n8 n8) rfl<|WL.a (boo true) rfl<|WL.e ?_
    obtain ⟨H76, hle77, hs78, _, S⟩ := S.settle (i := 0) rfl
    replace S : St w0 H0 _ H76 [] := S
    have hA79 : At H76 ⟨b5, 0, none⟩ ms29 := ⟨_, _, rfl, hs78, [], by simp⟩
    have R30 := Ms.mono R30 hle77
    have R80 : Sl (α := Str) H76 (.slice (some ⟨b5, 0, none⟩) n8 n8) m28 := Ms.sl R30 hL31 hA79
    obtain rfl := oi h
    refine WP.ret (Out.two rfl S rfl rfl ?_)
    exact ⟨_, rfl, R80⟩
   ·exact hM.elim
theorem slices_Equal_string_string_ok {w0 : World} {H0 : Hp} (hw : Holds w0 H0) (hG : Tryz.Gl w0) (p_s1 : (List Str)) (p_s2 : (List Str)) {vp_s1 : Value} {vp_s2 : Value} (Rp_s1 : Sl (α := Str) H0 vp_s1 p_s1) (Rp_s2 : Sl (α := Str) H0 vp_s2 p_s2) {r : Bool} (h : slices_Equal_string_string p_s1 p_s2 = some r) :
  Con Tryz.prog 93 [vp_s1, vp_s2] w0 H0 (fun H' v => v = (boo r)) := by
 refine Con.mk (N := 26) Tryz.func93 rfl rfl (by kernel_rfl) rfl ?_
 have S := St.start hw
 refine WP.s<|WP.g<|WL.a (boo false) rfl<|WL.e<|WP.s<|WP.s<|WP.g<|WL.m (vp_s1) rfl<|WL.w (R.lenL (α := Str) (xs := p_s1) (H := H0) Rp_s1 rfl Tryz.underlying23)<|WL.m (vp_s2) rfl<|WL.w (R.lenL (α := Str) (xs := p_s2) (H := H0) Rp_s2 rfl Tryz.underlying23)<|WL.w (R.neq rfl rfl) ?_
 refine WL.e ?_
 rcases condE h with ⟨hc1, h⟩ | ⟨hc1, h⟩
 ·refine WP.condT rfl hc1<|WP.s<|WP.g<|WL.a (boo false) rfl<|WL.e ?_
  obtain rfl := oi h
  refine WP.ret (Out.one rfl S rfl ?_)
  exact rfl
 ·refine WP.condF rfl hc1<|WP.skip<|WP.s<|WP.s<|WP.g<|WL.m (vp_s1) rfl<|WL.w (R.lenL (α := Str) (xs := p_s1) (H := H0) Rp_s1 rfl Tryz.underlying23)<|WL.m (int 0) rfl<|WL.e ?_
  obtain ⟨r12, hr13, h⟩ := bindE h
  refine WP.cut (fun f w => match r12 with | .inl _ => ∃ (H8 : Hp), St w0 H0 w H8 [] | .inr _ => False) ?_ ?_
  ·refine WP.block ?_
   refine WP.loopM (slices_Equal_string_string_L0 p_s1 p_s2) (fun s f w => match s with | y_6 => ∃ (H2 : Hp), f 0 = vp_s1 ∧ f 1 = vp_s2 ∧ f 12 = (int (p_s1.length : Int)) ∧ f 13 = (int y_6) ∧ Sl (α := Str) H2 vp_s1 p_s1 ∧ Sl (α := Str) H2 vp_s2 p_s2 ∧ St w0 H0 w H2 []) 0 r12 hr13 ?_ ?_
   ·exact ⟨H0, rfl, rfl, rfl, rfl, Rp_s1, Rp_s2, S⟩
   ·intro y_6 f w hI y9 hy10 hy11
    obtain ⟨H2, h3, h4, h5, h7, Rp_s1, Rp_s2, S⟩ := hI
    refine WP.s<|WP.g<|WL.w (R.lss h7 h5)<|WL.e<|WP.s ?_
    rcases condE hy10 with ⟨hc14, hy10⟩ | ⟨hc14, hy10⟩
    ·refine WP.condT rfl hc14<|WP.skip<|WP.s<|WP.block<|WP.s<|WP.g<|WL.m (int y_6) h7<|WL.a (int y_6) rfl<|WL.e<|WP.s<|WP.quiet S (by kernel_rfl) (by kernel_rfl)<|WQ.val (fun _ _ => (R.mv (v := vp_s1) h3)) ?_
     refine WQ.val (fun _ _ => (R.mv (v := int y_6) rfl)) ?_
     obtain ⟨x18, hx18, hy10⟩ := bindE hy10
     refine WQ.idx (α := Str) Rp_s1 rfl rfl el23 hx18 ?_
     rintro a19 _ hA20 rfl
     refine WQ.val (fun w hw => by obtain ⟨_, hq, S⟩ := hw; exact (R.loadH (v := str x18) S rfl (At.mono hA20 hq (by simp)) lay9 rfl))<|WQ.val (fun _ _ => (R.mv (v := vp_s2) h4))<|WQ.val (fun _ _ => (R.mv (v := int y_6) rfl)) ?_
     obtain ⟨x21, hx21, hy10⟩ := bindE hy10
     refine WQ.idx (α := Str) Rp_s2 rfl rfl el23 hx21 ?_
     rintro a22 _ hA23 rfl
     refine WQ.val (fun w hw => by obtain ⟨_, hq, S⟩ := hw; exact (R.loadH (v := str x21) S rfl (At.mono hA23 hq (by simp)) lay9 rfl))<|WQ.val (fun _ _ => (R.neqS (a := x18) (b := x21) rfl rfl))<|WQ.nil ?_
     intro w15 H16 hle17 S
     have Rp_s1 := Sl.mono Rp_s1 hle17
     have Rp_s2 := Sl.mono Rp_s2 hle17
     rcases condE hy10 with ⟨hc24, hy10⟩ | ⟨hc24, hy10⟩
     ·refine WP.condT rfl hc24<|WP.s<|WP.g<|WL.a (boo false) rfl<|WL.e ?_
      obtain rfl := oi hy10
      obtain rfl := hy11
      obtain rfl := oi h
      refine WP.ret (Out.one rfl S rfl ?_)
      exact rfl
     ·refine WP.condF rfl hc24<|WP.skip<|WP.g<|WL.w (R.add h7 rfl)<|WL.m (int (wr (y_6 + 1))) rfl<|WL.e ?_
      obtain rfl := oi hy10
      exact ⟨rfl, ⟨H16, h3, h4, h5, rfl, Rp_s1, Rp_s2, S⟩⟩
    ·refine WP.condF rfl hc14<|WP.exit ?_
     obtain rfl := oi hy10
     obtain rfl := hy11
     exact ⟨H2, S⟩
  ·intro f w hM
   rcases r12 with _ | e
   ·obtain ⟨H8, S⟩ := hM
    refine WP.s<|WP.g<|WL.a (boo true) rfl<|WL.e ?_
    obtain rfl := oi h
    refine WP.ret (Out.one rfl S rfl ?_)
    exact rfl
   ·exact hM.elim
theorem variantkey_Parse_1_ok {w0 : World} {H0 : Hp} (hw : Holds w0 H0) (hG : Tryz.Gl w0) (p_k : (List Str)) (c_x0 : (List Str)) {vp_k : Value} {vc_x00 : Value} {ac_x0 : Addr} (Rp_k : Sl (α := Str) H0 vp_k p_k) (Ac_x0 : At H0 ac_x0 [vc_x00]) (Rc_x00 : Sl (α := Str) H0 vc_x00 c_x0) {r : Bool} (h : variantkey_Parse_1 p_k c_x0 = some r) :
  Con Tryz.prog 92 [vp_k, (.pointer (some ac_x0))] w0 H0 (fun H' v => v = (boo r)) := by
 refine Con.mk (N := 7) Tryz.func92 rfl rfl (by kernel_rfl) rfl ?_
 have S := St.start hw
 refine WP.s<|WP.g<|WL.a (boo false) rfl<|WL.e<|WP.s<|WP.g<|WL.m (vp_k) rfl<|WL.w (R.loadH (v := vc_x00) S rfl Ac_x0 lay23 rfl) ?_
 obtain ⟨r1, hr1, h⟩ := bindE h
 refine W.call S rfl (slices_Equal_string_string_ok S.holds (hG.post S.post) p_k c_x0 Rp_k Rc_x00 hr1) ?_
 rintro v2 w3 H4 hle5 S rfl
 refine WL.a (boo r1) rfl<|WL.e ?_
 obtain rfl := oi h
 refine WP.ret (Out.one rfl S rfl ?_)
 exact rfl
theorem slices_IndexFunc_LL_string_string_ok {w0 : World} {H0 : Hp} (hw : Holds w0 H0) (hG : Tryz.Gl w0) (p_s : (List (List Str))) (p_f : ((List Str) → Option Bool)) {vp_s : Value} {kp_f : FuncId} {cp_f : List Value} (Rp_s : Sl (α := (List Str)) H0 vp_s p_s) (Fp_f : ∀ {w : World} {H : Hp}, H0.le H → Holds w H → Tryz.Gl w → ∀ (x0 : (List Str)), ∀ {y0 : Value}, Sl (α := Str) H y0 x0 → ∀ (rr : Bool), p_f x0 = some rr → Con Tryz.prog kp_f ([y0] ++ cp_f) w H (fun H' v => v = (boo rr))) {r : Int} (h : slices_IndexFunc_LL_string_string p_s p_f = some r) :
  Con Tryz.prog 139 [vp_s, (.func (.func kp_f) #[] cp_f.toArray)] w0 H0 (fun H' v => v = (int r)) := by
 refine Con.mk (N := 19) Tryz.func139 rfl rfl (by kernel_rfl) rfl ?_
 have S := St.start hw
 refine WP.s<|WP.g<|WL.a (int 0) rfl<|WL.e<|WP.s<|WP.s<|WP.g<|WL.m (vp_s) rfl<|WL.w (R.lenL (α := (List Str)) (xs := p_s) (H := H0) Rp_s rfl Tryz.underlying22)<|WL.m (int 0) rfl<|WL.e ?_
 obtain ⟨r11, hr12, h⟩ := bindE h
 refine WP.cut (fun f w => match r11 with | .inl _ => ∃ (H7 : Hp), St w0 H0 w H7 [] | .inr _ => False) ?_ ?_
 ·refine WP.block ?_
  refine WP.loopM (slices_IndexFunc_LL_string_string_L0 p_s p_f) (fun s f w => match s with | y_5 => ∃ (H1 : Hp), f 0 = vp_s ∧ f 1 = (.func (.func kp_f) #[] cp_f.toArray) ∧ f 7 = (int (p_s.length : Int)) ∧ f 8 = (int y_5) ∧ Sl (α := (List Str)) H1 vp_s p_s ∧ St w0 H0 w H1 []) 0 r11 hr12 ?_ ?_
  ·exact ⟨H0, rfl, rfl, rfl, rfl, Rp_s, S⟩
  ·intro y_5 f w hI y8 hy9 hy10
   obtain ⟨H1, h2, h3, h4, h6, Rp_s, S⟩ := hI
   refine WP.s<|WP.g<|WL.w (R.lss h6 h4)<|WL.e<|WP.s ?_
   rcases condE hy9 with ⟨hc13, hy9⟩ | ⟨hc13, hy9⟩
   ·refine WP.condT rfl hc13<|WP.skip<|WP.s<|WP.block<|WP.s<|WP.g<|WL.m (int y_5) h6<|WL.a (int y_5) rfl<|WL.e<|WP.s<|WP.g<|WL.m (.func (.func kp_f) #[] cp_f.toArray) h3 ?_
    refine WL.m (vp_s) h2<|WL.m (int y_5) rfl ?_
    obtain ⟨x14, hx14, hy9⟩ := bindE hy9
    refine W.idx (α := (List Str)) Rp_s rfl rfl el22 hx14 ?_
    rintro a15 _ hA16 ⟨v17, rfl, R18⟩
    refine WL.w (R.loadH (v := v17) S rfl hA16 lay23 rfl) ?_
    obtain ⟨r19, hr19, hy9⟩ := bindE hy9
    refine W.callv S rfl rfl (Fp_f (S.post.le) S.holds (hG.post S.post) x14 R18 _ hr19) ?_
    rintro v20 w21 H22 hle23 S rfl
    have Rp_s := Sl.mono Rp_s hle23
    refine WL.e ?_
    rcases condE hy9 with ⟨hc24, hy9⟩ | ⟨hc24, hy9⟩
    ·refine WP.condT rfl hc24<|WP.s<|WP.g<|WL.m (int y_5) rfl<|WL.a (int y_5) rfl<|WL.e ?_
     obtain rfl := oi hy9
     obtain rfl := hy10
     obtain rfl := oi h
     refine WP.ret (Out.one rfl S rfl ?_)
     exact rfl
    ·refine WP.condF rfl hc24<|WP.skip<|WP.g<|WL.w (R.add h6 rfl)<|WL.m (int (wr (y_5 + 1))) rfl<|WL.e ?_
     obtain rfl := oi hy9
     exact ⟨rfl, ⟨H22, h2, h3, h4, rfl, Rp_s, S⟩⟩
   ·refine WP.condF rfl hc13<|WP.exit ?_
    obtain rfl := oi hy9
    obtain rfl := hy10
    exact ⟨H1, S⟩
 ·intro f w hM
  rcases r11 with _ | e
  ·obtain ⟨H7, S⟩ := hM
   refine WP.s<|WP.g<|WL.a (int (-1)) rfl<|WL.e ?_
   obtain rfl := oi h
   refine WP.ret (Out.one rfl S rfl ?_)
   exact rfl
  ·exact hM.elim
theorem slices_ContainsFunc_LL_string_string_ok {w0 : World} {H0 : Hp} (hw : Holds w0 H0) (hG : Tryz.Gl w0) (p_s : (List (List Str))) (p_f : ((List Str) → Option Bool)) {vp_s : Value} {kp_f : FuncId} {cp_f : List Value} (Rp_s : Sl (α := (List Str)) H0 vp_s p_s) (Fp_f : ∀ {w : World} {H : Hp}, H0.le H → Holds w H → Tryz.Gl w → ∀ (x0 : (List Str)), ∀ {y0 : Value}, Sl (α := Str) H y0 x0 → ∀ (rr : Bool), p_f x0 = some rr → Con Tryz.prog kp_f ([y0] ++ cp_f) w H (fun H' v => v = (boo rr))) {r : Bool} (h : slices_ContainsFunc_LL_string_string p_s p_f = some r) :
  Con Tryz.prog 91 [vp_s, (.func (.func kp_f) #[] cp_f.toArray)] w0 H0 (fun H' v => v = (boo r)) := by
 refine Con.mk (N := 9) Tryz.func91 rfl rfl (by kernel_rfl) rfl ?_
 have S := St.start hw
 refine WP.s<|WP.g<|WL.a (boo false) rfl<|WL.e<|WP.s<|WP.g<|WL.m (vp_s) rfl<|WL.m (.func (.func kp_f) #[] cp_f.toArray) rfl ?_
 obtain ⟨r1, hr1, h⟩ := bindE h
 refine W.call S rfl (slices_IndexFunc_LL_string_string_ok S.holds (hG.post S.post) p_s p_f Rp_s (fun hle => Fp_f (Hp.le.trans S.post.le hle)) hr1) ?_
 rintro v2 w3 H4 hle5 S rfl
 refine WL.w (R.geq rfl rfl)<|WL.a (boo (decide (0 ≤ r1))) rfl<|WL.e ?_
 obtain rfl := oi h
 refine WP.ret (Out.one rfl S rfl ?_)
 exact rfl
theorem variantkey_Parse_ok {w0 : World} {H0 : Hp} (hw : Holds w0 H0) (hG : Tryz.Gl w0) (p_ppend : (List GField)) (p_x1 : (List GAxis)) {vp_ppend : Value} {vp_x1 : Value} (Rp_ppend : Sl (α := GField) H0 vp_ppend p_ppend) (Rp_x1 : Sl (α := GAxis) H0 vp_x1 p_x1) {r : ((List (List Str)) × Int)} (h : variantkey_Parse p_ppend p_x1 = some r) :
  Con Tryz.prog 47 [vp_ppend, vp_x1] w0 H0 (fun H' v => ∃ u1 : Value, v = (.tuple ⟨[u1, (int r.2)]⟩) ∧ Sl (α := (List Str)) H' u1 r.1) := by
 refine Con.mk (N := 67) Tryz.func47 rfl rfl (by kernel_rfl) rfl ?_
 have S := St.start hw
 refine WP.s<|WP.g<|WL.a (.slice none 0 0) rfl<|WL.a (int 0) rfl<|WL.e<|WP.s<|WP.s<|WP.g<|WL.m (vp_x1) rfl ?_
 obtain ⟨r1, hr1, h⟩ := bindE h
 refine W.call S rfl (variants_Valid_ok S.holds (hG.post S.post) p_x1 Rp_x1 hr1) ?_
 rintro v2 w3 H4 hle5 S rfl
 have Rp_ppend := Sl.mono Rp_ppend hle5
 have Rp_x1 := Sl.mono Rp_x1 hle5
 refine WL.w (R.not rfl)<|WL.e ?_
 rcases condE h with ⟨hc6, h⟩ | ⟨hc6, h⟩
 ·refine WP.condT rfl hc6<|WP.s<|WP.g<|WL.a (.slice none 0 0) rfl<|WL.a (int 10) rfl<|WL.e ?_
  obtain rfl := oi h
  refine WP.ret (Out.two rfl S rfl rfl ?_)
  exact ⟨_, rfl, Sl.nil⟩
 ·refine WP.condF rfl hc6<|WP.skip<|WP.s<|WP.g<|WL.m (vp_ppend) rfl ?_
  obtain ⟨r7, hr7, h⟩ := bindE h
  refine W.call S rfl (list_All_ok S.holds (hG.post S.post) p_ppend [86, 97, 114, 105, 97, 110, 116, 45, 75, 101, 121] Rp_ppend hr7) ?_
  rintro v8 w9 H10 hle11 S R12
  have Rp_x1 := Sl.mono Rp_x1 hle11
  refine WL.a (v8) rfl<|WL.e<|WP.s<|WP.s<|WP.g<|WL.m (v8) rfl<|WL.w (R.lenL (α := Str) (xs := r7) (H := H10) R12 rfl Tryz.underlying23)<|WL.w (R.eql rfl rfl)<|WL.e ?_
  rcases condE h with ⟨hc13, h⟩ | ⟨hc13, h⟩
  ·refine WP.condT rfl hc13<|WP.s<|WP.g<|WL.a (.slice none 0 0) rfl<|WL.a (int 12) rfl<|WL.e ?_
   obtain rfl := oi h
   refine WP.ret (Out.two rfl S rfl rfl ?_)
   exact ⟨_, rfl, Sl.nil⟩
  ·refine WP.condF rfl hc13<|WP.skip<|WP.s<|WP.g<|WL.a (.slice none 0 0) rfl<|WL.e<|WP.s<|WP.s<|WP.g<|WL.m (v8) rfl<|WL.w (R.lenL (α := Str) (xs := r7) (H := H10) R12 rfl Tryz.underlying23)<|WL.m (int 0) rfl ?_
   refine WL.e ?_
   have S := S.addNil 23 1
   obtain ⟨r33, hr34, h⟩ := bindE h
   refine WP.cut (fun f w => match r33 with | .inl y_26 => ∃ (H24 : Hp) (v27 : Value), f 1 = vp_x1 ∧ f 7 = v27 ∧ Sl (α := GAxis) H24 vp_x1 p_x1 ∧ Sl (α := (List Str)) H24 v27 y_26 ∧ St w0 H0 w H24 [.row v27 23 1 y_26.length] | .inr _ => False) ?_ ?_
   ·refine WP.block ?_
    refine WP.loopM (variantkey_Parse_L0 r7) (fun s f w => match s with | (y_16, y_22) => ∃ (H14 : Hp) (v17 : Value), f 1 = vp_x1 ∧ f 7 = v17 ∧ f 25 = v8 ∧ f 26 = (int (r7.length : Int)) ∧ f 27 = (int y_22) ∧ Sl (α := GAxis) H14 vp_x1 p_x1 ∧ Sl (α := (List Str)) H14 v17 y_16 ∧ Sl (α := Str) H14 v8 r7 ∧ St w0 H0 w H14 [.row v17 23 1 y_16.length]) (([] : List (List Str)), 0) r33 hr34 ?_ ?_
    ·exact ⟨H10, .slice none 0 0, rfl, rfl, rfl, rfl, rfl, Rp_x1, Sl.nil, R12, S⟩
    ·intro s f w hI y30 hy31 hy32
     obtain ⟨y_16, y_22⟩ := s
     obtain ⟨H14, v17, h15, h19, h20, h21, h23, Rp_x1, R18, R12, S⟩ := hI
     refine WP.s<|WP.g<|WL.w (R.lss h23 h21)<|WL.e<|WP.s ?_
     rcases condE hy31 with ⟨hc35, hy31⟩ | ⟨hc35, hy31⟩
     ·refine WP.condT rfl hc35<|WP.skip<|WP.s<|WP.block<|WP.s<|WP.g ?_
      obtain ⟨x36, hx36, hy31⟩ := bindE hy31
      refine W.idx (α := Str) R12 h20 h23 el23 hx36 ?_
      rintro a37 _ hA38 rfl
      refine WL.w (R.loadH (v := str x36) S rfl hA38 lay9 rfl)<|WL.a (str x36) rfl<|WL.e<|WP.s<|WP.g<|WL.m (str x36) rfl ?_
      obtain ⟨r39, hr39, hy31⟩ := bindE hy31
      refine W.call S rfl (group_Read_ok S.holds (hG.post S.post) x36 hr39) ?_
      rintro v40 w41 H42 hle43 S ⟨u44, rfl, R45⟩
      have Rp_x1 := Sl.mono Rp_x1 hle43
      have R18 := Sl.mono R18 hle43
      have R12 := Sl.mono R12 hle43
      refine WL.m (.tuple ⟨[u44, (boo r39.2)]⟩) rfl<|WL.w (R.ext rfl rfl)<|WL.w (R.ext rfl rfl)<|WL.a (u44) rfl<|WL.a (boo r39.2) rfl<|WL.e<|WP.s<|WP.s<|WP.g<|WL.m (boo r39.2) rfl<|WL.w (R.not rfl)<|WL.e ?_
      rcases condE hy31 with ⟨hc46, hy31⟩ | ⟨hc46, hy31⟩
      ·refine WP.condT rfl hc46<|WP.s<|WP.g<|WL.a (.slice none 0 0) rfl<|WL.a (int 1) rfl<|WL.e ?_
       obtain rfl := oi hy31
       obtain rfl := hy32
       obtain rfl := oi h
       refine WP.ret (Out.two rfl S rfl rfl ?_)
       exact ⟨_, rfl, Sl.nil⟩
      ·refine WP.condF rfl hc46<|WP.skip<|WP.g<|WL.m (v17) h19<|WL.m (u44) rfl<|W.bslice (α := (List Str)) [u44] ([r39.1] : List (List Str)) S el22 rfl rfl rfl (by decide) (Go.Eng.encS ⟨(by rw [Sl.cellsOne R45]; rfl), _, (by rw [Sl.cellsOne R45]), R45⟩ enc0) ?_
       intro u47 w48 H49 hle50 R51 S
       have Rp_x1 := Sl.mono Rp_x1 hle50
       have R18 := Sl.mono R18 hle50
       have R12 := Sl.mono R12 hle50
       obtain ⟨l52, hl52, hy31⟩ := bindE hy31
       refine W.app (α := (List Str)) (i := 1) S el22 rfl rfl rfl R18 R51 hl52 ?_
       intro v53 w54 H55 hle56 R57 S
       have Rp_x1 := Sl.mono Rp_x1 hle56
       have R18 := Sl.mono R18 hle56
       have R12 := Sl.mono R12 hle56
       refine WL.a (v53) rfl<|WL.e<|WP.g<|WL.w (R.add h23 rfl)<|WL.m (int (wr (y_22 + 1))) rfl<|WL.e ?_
       obtain rfl := oi hy31
       exact ⟨rfl, ⟨H55, v53, h15, rfl, h20, h21, rfl, Rp_x1, R57, R12, (S.drop _ (.cons _ (.cons_cons _ .slnil)))⟩⟩
     ·refine WP.condF rfl hc35<|WP.exit ?_
      obtain rfl := oi hy31
      obtain rfl := hy32
      exact ⟨H14, v17, h15, h19, Rp_x1, R18, S⟩
   ·intro f w hM
    rcases r33 with y_26 | e
    ·obtain ⟨H24, v27, h25, h29, Rp_x1, R28, S⟩ := hM
     refine WP.s<|WP.g<|WL.a (.slice none 0 0) rfl<|WL.e<|WP.s<|WP.s<|WP.g<|WL.m (v27) h29<|WL.w (R.lenL (α := (List Str)) (xs := y_26) (H := H24) R28 rfl Tryz.underlying22)<|WL.m (int 0) rfl<|WL.e ?_
     have S := S.addNil 23 1
     obtain ⟨r76, hr77, h⟩ := bindE h
     refine WP.cut (fun f w => match r76 with | .inl y_69 => ∃ (H68 : Hp) (v70 : Value), f 12 = v70 ∧ Sl (α := (List Str)) H68 v70 y_69 ∧ St w0 H0 w H68 [.row v70 23 1 y_69.length] | .inr _ => False) ?_ ?_
     ·refine WP.block ?_
      refine WP.loopM (variantkey_Parse_L1 p_x1 y_26) (fun s f w => match s with | (y_60, y_66) => ∃ (H58 : Hp) (v61 : Value), f 1 = vp_x1 ∧ f 12 = v61 ∧ f 43 = v27 ∧ f 44 = (int (y_26.length : Int)) ∧ f 45 = (int y_66) ∧ Sl (α := GAxis) H58 vp_x1 p_x1 ∧ Sl (α := (List Str)) H58 v61 y_60 ∧ Sl (α := (List Str)) H58 v27 y_26 ∧ St w0 H0 w H58 [.row v61 23 1 y_60.length, .row v27 23 1 y_26.length]) (([] : List (List Str)), 0) r76 hr77 ?_ ?_
      ·exact ⟨H24, .slice none 0 0, h25, rfl, rfl, rfl, rfl, Rp_x1, Sl.nil, R28, S⟩
      ·intro s f w hI y73 hy74 hy75
       obtain ⟨y_60, y_66⟩ := s
       obtain ⟨H58, v61, h59, h63, h64, h65, h67, Rp_x1, R62, R28, S⟩ := hI
       refine WP.s<|WP.g<|WL.w (R.lss h67 h65)<|WL.e<|WP.s ?_
       rcases condE hy74 with ⟨hc78, hy74⟩ | ⟨hc78, hy74⟩
       ·refine WP.condT rfl hc78<|WP.skip<|WP.s<|WP.block<|WP.s<|WP.g ?_
        obtain ⟨x79, hx79, hy74⟩ := bindE hy74
        refine W.idx (α := (List Str)) R28 h64 h67 el22 hx79 ?_
        rintro a80 _ hA81 ⟨v82, rfl, R83⟩
        refine WL.w (R.loadH (v := v82) S rfl hA81 lay23 rfl)<|WL.a (v82) rfl<|WL.e<|WP.s<|WP.g<|WL.m (vp_x1) h59<|WL.m (v82) rfl ?_
        obtain ⟨r84, hr84, hy74⟩ := bindE hy74
        refine W.call S rfl (variantkey_resolve_ok S.holds (hG.post S.post) p_x1 x79 Rp_x1 R83 hr84) ?_
        rintro v85 w86 H87 hle88 S ⟨u89, rfl, R90⟩
        have Rp_x1 := Sl.mono Rp_x1 hle88
        have R62 := Sl.mono R62 hle88
        have R28 := Sl.mono R28 hle88
        refine WL.m (.tuple ⟨[u89, (boo r84.2)]⟩) rfl<|WL.w (R.ext rfl rfl)<|WL.w (R.ext rfl rfl)<|W.alloc [(.slice none 0 0)] S zer23 ?_
        intro b91 w92 S
        refine W.storeSl (α := Str) (i := 0) [u89] S R90 rfl rfl rfl lay23 (Nat.le_of_ble_eq_true rfl) rfl ?_
        intro w93 S
        refine WL.a (boo r84.2) rfl<|WL.e<|WP.s<|WP.s<|WP.g<|WL.m (boo r84.2) rfl<|WL.w (R.not rfl)<|WL.e ?_
        rcases condE hy74 with ⟨hc94, hy74⟩ | ⟨hc94, hy74⟩
        ·refine WP.condT rfl hc94<|WP.s<|WP.g<|WL.a (.slice none 0 0) rfl<|WL.a (int 11) rfl<|WL.e ?_
         obtain rfl := oi hy74
         obtain rfl := hy75
         obtain rfl := oi h
         refine WP.ret (Out.two rfl S rfl rfl ?_)
         exact ⟨_, rfl, Sl.nil⟩
        ·refine WP.condF rfl hc94<|WP.skip<|WP.s<|WP.g<|WL.m (v61) h63 ?_
         obtain ⟨H95, hle96, hs97, _, S⟩ := S.settle (i := 0) rfl
         replace S : St w0 H0 _ H95 [.row v61 23 1 y_60.length, .row v27 23 1 y_26.length] := S
         have hA98 : At H95 ⟨b91, 0, none⟩ [u89] := ⟨_, _, rfl, hs97, [], by simp⟩
         have Rp_x1 := Sl.mono Rp_x1 hle96
         have R62 := Sl.mono R62 hle96
         have R28 := Sl.mono R28 hle96
         have R90 := Sl.mono R90 hle96
         refine WL.w (R.mkFunc (vs := [(.pointer (some ⟨b91, 0, none⟩))]) rfl) ?_
         obtain ⟨r99, hr99, hy74⟩ := bindE hy74
         refine W.call S rfl (slices_ContainsFunc_LL_string_string_ok S.holds (hG.post S.post) y_60 (fun x0 => variantkey_Parse_1 x0 r84.1) R62 (fun hle hw hG x0 => fun q0 r h => variantkey_Parse_1_ok hw hG x0 r84.1 q0 (At.mono hA98 hle (by simp)) (Sl.mono R90 hle) h) hr99) ?_
         rintro v100 w101 H102 hle103 S rfl
         have Rp_x1 := Sl.mono Rp_x1 hle103
         have R62 := Sl.mono R62 hle103
         have R28 := Sl.mono R28 hle103
         have R90 := Sl.mono R90 hle103
         have hA98 := At.mono hA98 hle103 (by simp)
         refine WL.w (R.not rfl)<|WL.e ?_
         rcases condE hy74 with ⟨hc104, hy74⟩ | ⟨hc104, hy74⟩
         ·refine WP.condT rfl hc104<|WP.g<|WL.m (v61) h63<|WL.w (R.loadH (v := u89) S rfl hA98 lay23 rfl)<|W.bslice (α := (List Str)) [u89] ([r84.1] : List (List Str)) S el22 rfl rfl rfl (by decide) (Go.Eng.encS ⟨(by rw [Sl.cellsOne R90]; rfl), _, (by rw [Sl.cellsOne R90]), R90⟩ enc0) ?_
          intro u105 w106 H107 hle108 R109 S
          have Rp_x1 := Sl.mono Rp_x1 hle108
          have R62 := Sl.mono R62 hle108
          have R28 := Sl.mono R28 hle108
          obtain ⟨l110, hl110, hy74⟩ := bindE hy74
          refine W.app (α := (List Str)) (i := 1) S el22 rfl rfl rfl R62 R109 hl110 ?_
          intro v111 w112 H113 hle114 R115 S
          have Rp_x1 := Sl.mono Rp_x1 hle114
          have R62 := Sl.mono R62 hle114
          have R28 := Sl.mono R28 hle114
          refine WL.a (v111) rfl<|WL.e<|WP.g<|WL.w (R.add h67 rfl)<|WL.m (int (wr (y_66 + 1))) rfl<|WL.e ?_
          obtain rfl := oi hy74
          exact ⟨rfl, ⟨H113, v111, h59, rfl, h64, h65, rfl, Rp_x1, R115, R28, (S.drop _ (.cons _ (.cons_cons _ (.cons_cons _ .slnil))))⟩⟩
         ·refine WP.condF rfl hc104<|WP.skip<|WP.g<|WL.w (R.add h67 rfl)<|WL.m (int (wr (y_66 + 1))) rfl<|WL.e ?_
          obtain rfl := oi hy74
          exact ⟨rfl, ⟨H102, v61, h59, h63, h64, h65, rfl, Rp_x1, R62, R28, S⟩⟩
       ·refine WP.condF rfl hc78<|WP.exit ?_
        obtain rfl := oi hy74
        obtain rfl := hy75
        exact ⟨H58, v61, h63, R62, (S.drop _ (.cons_cons _ (.cons _ .slnil)))⟩
     ·intro f w hM
      rcases r76 with y_69 | e
      ·obtain ⟨H68, v70, h72, R71, S⟩ := hM
       refine WP.s<|WP.g<|WL.m (v70) h72<|WL.a (v70) rfl<|WL.a (int 0) rfl<|WL.e ?_
       obtain rfl := oi h
       refine WP.ret (Out.two rfl S rfl rfl ?_)
       exact ⟨_, rfl, R71⟩
      ·exact hM.elim
    ·exact hM.elim
theorem vary_Names_ok {w0 : World} {H0 : Hp} (hw : Holds w0 H0) (hG : Tryz.Gl w0) (p_l : (List GField)) {vp_l : Value} (Rp_l : Sl (α := GField) H0 vp_l p_l) {r : ((List Str) × Bool)} (h : vary_Names p_l = some r) :
  Con Tryz.prog 48 [vp_l] w0 H0 (fun H' v => ∃ u1 : Value, v = (.tuple ⟨[u1, (boo r.2)]⟩) ∧ Sl (α := Str) H' u1 r.1) := by
 refine Con.mk (N := 36) Tryz.func48 rfl rfl (by kernel_rfl) rfl ?_
 have S := St.start hw
 have Rp_l_0 := Rp_l
 refine WP.s<|WP.g<|WL.a (.slice none 0 0) rfl<|WL.a (boo false) rfl<|WL.e<|WP.s<|WP.g<|WL.m (vp_l) rfl ?_
 obtain ⟨r1, hr1, h⟩ := bindE h
 refine W.call S rfl (list_All_ok S.holds (hG.post S.post) p_l [86, 97, 114, 121] Rp_l hr1) ?_
 rintro v2 w3 H4 hle5 S R6
 refine WL.a (v2) rfl<|WL.e<|WP.s<|WP.s<|WP.g<|WL.m (v2) rfl<|WL.w (R.lenL (α := Str) (xs := r1) (H := H4) R6 rfl Tryz.underlying23)<|WL.w (R.geq rfl rfl)<|WL.e ?_
 rcases condE h with ⟨hc7, h⟩ | ⟨hc7, h⟩
 ·refine WP.condT rfl hc7<|WP.s<|WP.g<|WL.a (.slice none 0 0) rfl<|WL.a (boo false) rfl<|WL.e ?_
  obtain rfl := oi h
  refine WP.ret (Out.two rfl S rfl rfl ?_)
  exact ⟨_, rfl, Sl.nil⟩
 ·refine WP.condF rfl hc7<|WP.skip<|WP.s<|WP.g<|WL.a (.slice none 0 0) rfl<|WL.e<|WP.s<|WP.s<|WP.g<|WL.m (v2) rfl<|WL.w (R.lenL (α := Str) (xs := r1) (H := H4) R6 rfl Tryz.underlying23)<|WL.m (int 0) rfl ?_
  refine WL.e ?_
  have S := S.addNil 9 1
  obtain ⟨r25, hr26, h⟩ := bindE h
  refine WP.cut (fun f w => match r25 with | .inl out_18 => ∃ (H17 : Hp) (v19 : Value), f 5 = v19 ∧ Sl (α := Str) H17 v19 out_18 ∧ St w0 H0 w H17 [.row v19 9 1 out_18.length] | .inr _ => False) ?_ ?_
  ·refine WP.block ?_
   refine WP.loopM (vary_Names_L0 r1) (fun s f w => match s with | (out_9, y_15) => ∃ (H8 : Hp) (v10 : Value), f 5 = v10 ∧ f 13 = v2 ∧ f 14 = (int (r1.length : Int)) ∧ f 15 = (int y_15) ∧ Sl (α := Str) H8 v10 out_9 ∧ Sl (α := Str) H8 v2 r1 ∧ St w0 H0 w H8 [.row v10 9 1 out_9.length]) (([] : List Str), 0) r25 hr26 ?_ ?_
   ·exact ⟨H4, .slice none 0 0, rfl, rfl, rfl, rfl, Sl.nil, R6, S⟩
   ·intro s f w hI y22 hy23 hy24
    obtain ⟨out_9, y_15⟩ := s
    obtain ⟨H8, v10, h12, h13, h14, h16, R11, R6, S⟩ := hI
    refine WP.s<|WP.g<|WL.w (R.lss h16 h14)<|WL.e<|WP.s ?_
    rcases condE hy23 with ⟨hc27, hy23⟩ | ⟨hc27, hy23⟩
    ·refine WP.condT rfl hc27<|WP.skip<|WP.s<|WP.block<|WP.s<|WP.g ?_
     obtain ⟨x28, hx28, hy23⟩ := bindE hy23
     refine W.idx (α := Str) R6 h13 h16 el23 hx28 ?_
     rintro a29 _ hA30 rfl
     refine WL.w (R.loadH (v := str x28) S rfl hA30 lay9 rfl)<|WL.a (str x28) rfl<|WL.e<|WP.s<|WP.s<|WP.g<|WL.m (str x28) rfl ?_
     obtain ⟨r31, hr31, hy23⟩ := bindE hy23
     refine W.call S rfl (ascii_Token_ok S.holds (hG.post S.post) x28 hr31) ?_
     rintro v32 w33 H34 hle35 S rfl
     have R11 := Sl.mono R11 hle35
     have R6 := Sl.mono R6 hle35
     refine WL.w (R.not rfl)<|WL.m (boo (!r31)) rfl ?_
     refine WL.grp 3 [23, 24] 25 (boo ((!r31) || (x28 == [42]))) ?_ ?_
     ·rcases boolE (!r31) with hb36 | hb36
      ·refine WL.n rfl rfl hb36<|WL.n rfl rfl hb36<|WL.w (R.pickT rfl hb36 rfl) ?_
       exact WL.e ⟨(orT hb36), ag, rfl⟩
      ·refine WL.y rfl rfl hb36<|WL.m (str x28) rfl<|WL.y rfl rfl hb36<|WL.w (R.eqlS (a := x28) (b := [42]) rfl rfl)<|WL.w (R.pickF rfl hb36 rfl) ?_
       exact WL.e ⟨(orF hb36), ag, rfl⟩
     ·intro us
      refine WL.e ?_
      rcases condE hy23 with ⟨hc38, hy23⟩ | ⟨hc38, hy23⟩
      ·refine WP.condT rfl hc38<|WP.s<|WP.g<|WL.a (.slice none 0 0) rfl<|WL.a (boo false) rfl<|WL.e ?_
       obtain rfl := oi hy23
       obtain rfl := hy24
       obtain rfl := oi h
       refine WP.ret (Out.two rfl S rfl rfl ?_)
       exact ⟨_, rfl, Sl.nil⟩
      ·refine WP.condF rfl hc38<|WP.skip<|WP.g<|WL.m (v10) h12<|WL.m (str x28) rfl ?_
       obtain ⟨r39, hr39, hy23⟩ := bindE hy23
       refine W.call S rfl (ascii_Lower_ok S.holds (hG.post S.post) x28 hr39) ?_
       rintro v40 w41 H42 hle43 S rfl
       have R11 := Sl.mono R11 hle43
       have R6 := Sl.mono R6 hle43
       refine W.bslice (α := Str) [(str r39)] ([r39] : List Str) S el23 rfl rfl rfl (by decide) (Go.Eng.encS ⟨rfl, rfl⟩ enc0) ?_
       intro u44 w45 H46 hle47 R48 S
       have R11 := Sl.mono R11 hle47
       have R6 := Sl.mono R6 hle47
       obtain ⟨l49, hl49, hy23⟩ := bindE hy23
       refine W.app (α := Str) (i := 1) S el23 rfl rfl rfl R11 R48 hl49 ?_
       intro v50 w51 H52 hle53 R54 S
       have R11 := Sl.mono R11 hle53
       have R6 := Sl.mono R6 hle53
       refine WL.a (v50) rfl<|WL.e<|WP.g<|WL.w (R.add h16 rfl)<|WL.m (int (wr (y_15 + 1))) rfl<|WL.e ?_
       obtain rfl := oi hy23
       exact ⟨rfl, ⟨H52, v50, rfl, h13, h14, rfl, R54, R6, (S.drop _ (.cons _ (.cons_cons _ .slnil)))⟩⟩
    ·refine WP.condF rfl hc27<|WP.exit ?_
     obtain rfl := oi hy23
     obtain rfl := hy24
     exact ⟨H8, v10, h12, R11, S⟩
  ·intro f w hM
   rcases r25 with out_18 | e
   ·obtain ⟨H17, v19, h21, R20, S⟩ := hM
    refine WP.s<|WP.g<|WL.m (v19) h21 ?_
    obtain ⟨l55, hl55, h⟩ := bindE h
    refine W.sortRow (i := 0) slices_Sort_string_con hw S rfl rfl R20 hl55 ?_
    intro w57 H58 hle59 R60 S
    refine WL.e<|WP.s<|WP.g<|WL.m (v19) h21 ?_
    obtain ⟨l61, hl61, h⟩ := bindE h
    refine W.compactRow (i := 0) slices_Compact_string_con hw S rfl rfl R60 hl61 ?_
    intro v62 w63 H64 hle65 R66 S
    refine WL.a (v62) rfl<|WL.a (boo true) rfl<|WL.e ?_
    obtain rfl := oi h
    refine WP.ret (Out.two rfl S rfl rfl ?_)
    exact ⟨_, rfl, R66⟩
   ·exact hM.elim
theorem list_Join_ok {w0 : World} {H0 : Hp} (hw : Holds w0 H0) (hG : Tryz.Gl w0) (p_members : (List Str)) {vp_members : Value} (Rp_members : Sl (α := Str) H0 vp_members p_members) {r : Str} (h : list_Join p_members = some r) :
  Con Tryz.prog 143 [vp_members] w0 H0 (fun H' v => v = (str r)) := by
 refine Con.mk (N := 5) Tryz.func143 rfl rfl (by kernel_rfl) rfl ?_
 have S := St.start hw
 refine WP.s<|WP.g<|WL.a (str []) rfl<|WL.e<|WP.s<|WP.g<|WL.m (vp_members) rfl ?_
 obtain ⟨r1, hr1, h⟩ := bindE h
 refine W.call S rfl (strings_Join_ok S.holds p_members [44, 32] Rp_members hr1) ?_
 rintro v2 w3 H4 hle5 S rfl
 refine WL.a (str r1) rfl<|WL.e ?_
 obtain rfl := oi h
 refine WP.ret (Out.one rfl S rfl ?_)
 exact rfl
theorem vary_Value_ok {w0 : World} {H0 : Hp} (hw : Holds w0 H0) (hG : Tryz.Gl w0) (p_name : Str) (p_l : (List GField)) {vp_l : Value} (Rp_l : Sl (α := GField) H0 vp_l p_l) {r : Str} (h : vary_Value p_name p_l = some r) :
  Con Tryz.prog 96 [(str p_name), vp_l] w0 H0 (fun H' v => v = (str r)) := by
 refine Con.mk (N := 30) Tryz.func96 rfl rfl (by kernel_rfl) rfl ?_
 have S := St.start hw
 refine WP.s<|WP.g<|WL.a (str []) rfl<|WL.e<|WP.s<|WP.s<|WP.g<|WL.m (vp_l) rfl<|WL.m (str p_name) rfl ?_
 obtain ⟨r1, hr1, h⟩ := bindE h
 refine W.call S rfl (fieldline_Has_ok S.holds (hG.post S.post) p_l p_name Rp_l hr1) ?_
 rintro v2 w3 H4 hle5 S rfl
 have Rp_l := Sl.mono Rp_l hle5
 refine WL.w (R.not rfl)<|WL.e ?_
 rcases condE h with ⟨hc6, h⟩ | ⟨hc6, h⟩
 ·refine WP.condT rfl hc6<|WP.s<|WP.g<|WL.a (str []) rfl<|WL.e ?_
  obtain rfl := oi h
  refine WP.ret (Out.one rfl S rfl ?_)
  exact rfl
 ·refine WP.condF rfl hc6<|WP.skip<|WP.s<|WP.s<|WP.g<|WL.m (vp_l) rfl<|WL.m (str p_name) rfl ?_
  obtain ⟨r7, hr7, h⟩ := bindE h
  refine W.call S rfl (list_All_ok S.holds (hG.post S.post) p_l p_name Rp_l hr7) ?_
  rintro v8 w9 H10 hle11 S R12
  have Rp_l := Sl.mono Rp_l hle11
  refine WL.a (v8) rfl<|WL.e<|WP.s<|WP.g<|WL.m (str p_name) rfl ?_
  obtain ⟨r13, hr13, h⟩ := bindE h
  refine W.call S rfl (accept_Kind_ok S.holds (hG.post S.post) p_name hr13) ?_
  rintro v14 w15 H16 hle17 S rfl
  have Rp_l := Sl.mono Rp_l hle17
  have R12 := Sl.mono R12 hle17
  refine WL.w (R.neq rfl rfl)<|WL.m (boo (r13 != 0)) rfl ?_
  refine WL.grp 4 [17, 18, 19] 20 (boo ((r13 != 0) && (decide ((r7.length : Int) < 64)))) ?_ ?_
  ·rcases boolE (r13 != 0) with hb18 | hb18
   ·refine WL.y rfl rfl hb18<|WL.m (v8) rfl<|WL.y rfl rfl hb18<|WL.w (R.lenL (α := Str) (xs := r7) (H := H16) R12 rfl Tryz.underlying23)<|WL.y rfl rfl hb18<|WL.w (R.lss rfl rfl)<|WL.w (R.pickT rfl hb18 rfl) ?_
    exact WL.e ⟨(andT hb18), ag, rfl⟩
   ·refine WL.n rfl rfl hb18<|WL.n rfl rfl hb18<|WL.n rfl rfl hb18<|WL.w (R.pickF rfl hb18 rfl) ?_
    exact WL.e ⟨(andF hb18), ag, rfl⟩
  ·intro us
   refine WL.e ?_
   rcases condE h with ⟨hc20, h⟩ | ⟨hc20, h⟩
   ·refine WP.condT rfl hc20<|WP.s<|WP.g<|WL.m (v8) rfl ?_
    obtain ⟨r21, hr21, h⟩ := bindE h
    refine W.call S rfl (list_Join_ok S.holds (hG.post S.post) r7 R12 hr21) ?_
    rintro v22 w23 H24 hle25 S rfl
    have Rp_l := Sl.mono Rp_l hle25
    obtain ⟨r26, hr26, h⟩ := bindE h
    refine W.call S rfl (ascii_Lower_ok S.holds (hG.post S.post) r21 hr26) ?_
    rintro v27 w28 H29 hle30 S rfl
    have Rp_l := Sl.mono Rp_l hle30
    obtain ⟨s31, hs31, h⟩ := bindE h
    refine WL.w (R.cat (a := [61]) (b := r26) rfl rfl hs31)<|WL.a (str s31) rfl<|WL.e ?_
    obtain rfl := oi h
    refine WP.ret (Out.one rfl S rfl ?_)
    exact rfl
   ·refine WP.condF rfl hc20<|WP.skip<|WP.s<|WP.g<|WL.m (vp_l) rfl<|WL.m (str p_name) rfl ?_
    obtain ⟨r32, hr32, h⟩ := bindE h
    refine W.call S rfl (fieldline_Get_ok S.holds (hG.post S.post) p_l p_name Rp_l hr32) ?_
    rintro v33 w34 H35 hle36 S R37
    obtain ⟨r38, hr38, h⟩ := bindE h
    refine W.call S rfl (strings_Join_ok S.holds r32 [44, 32] R37 hr38) ?_
    rintro v39 w40 H41 hle42 S rfl
    obtain ⟨s43, hs43, h⟩ := bindE h
    refine WL.w (R.cat (a := [61]) (b := r38) rfl rfl hs43)<|WL.a (str s43) rfl<|WL.e ?_
    obtain rfl := oi h
    refine WP.ret (Out.one rfl S rfl ?_)
    exact rfl
theorem vary_Snapshot_ok {w0 : World} {H0 : Hp} (hw : Holds w0 H0) (hG : Tryz.Gl w0) (p_names : (List Str)) (p_l : (List GField)) {vp_names : Value} {vp_l : Value} (Rp_names : Sl (α := Str) H0 vp_names p_names) (Rp_l : Sl (α := GField) H0 vp_l p_l) {r : (List Str)} (h : vary_Snapshot p_names p_l = some r) :
  Con Tryz.prog 49 [vp_names, vp_l] w0 H0 (fun H' v => Sl (α := Str) H' v r) := by
 refine Con.mk (N := 22) Tryz.func49 rfl rfl (by kernel_rfl) rfl ?_
 have S := St.start hw
 refine WP.s<|WP.g<|WL.a (.slice none 0 0) rfl<|WL.e<|WP.s<|WP.g<|WL.a (.slice none 0 0) rfl<|WL.e<|WP.s<|WP.s<|WP.g<|WL.m (vp_names) rfl ?_
 refine WL.w (R.lenL (α := Str) (xs := p_names) (H := H0) Rp_names rfl Tryz.underlying23)<|WL.m (int 0) rfl<|WL.e ?_
 have S := S.addNil 9 1
 obtain ⟨out_12, hr20, h⟩ := bindE h
 refine WP.cut (fun f w => ∃ (H11 : Hp) (v13 : Value), f 5 = v13 ∧ Sl (α := Str) H11 v13 out_12 ∧ St w0 H0 w H11 [.row v13 9 1 out_12.length]) ?_ ?_
 ·refine WP.block ?_
  refine WP.loopM (vary_Snapshot_L0 p_names p_l) (fun s f w => match s with | (out_3, y_9) => ∃ (H1 : Hp) (v4 : Value), f 1 = vp_l ∧ f 5 = v4 ∧ f 8 = vp_names ∧ f 9 = (int (p_names.length : Int)) ∧ f 10 = (int y_9) ∧ Sl (α := GField) H1 vp_l p_l ∧ Sl (α := Str) H1 v4 out_3 ∧ Sl (α := Str) H1 vp_names p_names ∧ St w0 H0 w H1 [.row v4 9 1 out_3.length]) (([] : List Str), 0) out_12 hr20 ?_ ?_
  ·exact ⟨H0, .slice none 0 0, rfl, rfl, rfl, rfl, rfl, Rp_l, Sl.nil, Rp_names, S⟩
  ·intro s f w hI y16 hy17 hy18
   obtain ⟨out_3, y_9⟩ := s
   obtain ⟨H1, v4, h2, h6, h7, h8, h10, Rp_l, R5, Rp_names, S⟩ := hI
   refine WP.s<|WP.g<|WL.w (R.lss h10 h8)<|WL.e<|WP.s ?_
   rcases condE hy17 with ⟨hc21, hy17⟩ | ⟨hc21, hy17⟩
   ·refine WP.condT rfl hc21<|WP.skip<|WP.s<|WP.block<|WP.s<|WP.g ?_
    obtain ⟨x22, hx22, hy17⟩ := bindE hy17
    refine W.idx (α := Str) Rp_names h7 h10 el23 hx22 ?_
    rintro a23 _ hA24 rfl
    refine WL.w (R.loadH (v := str x22) S rfl hA24 lay9 rfl)<|WL.a (str x22) rfl<|WL.e<|WP.g<|WL.m (v4) h6<|WL.m (str x22) rfl<|WL.m (vp_l) h2 ?_
    obtain ⟨r25, hr25, hy17⟩ := bindE hy17
    refine W.call S rfl (vary_Value_ok S.holds (hG.post S.post) x22 p_l Rp_l hr25) ?_
    rintro v26 w27 H28 hle29 S rfl
    have Rp_l := Sl.mono Rp_l hle29
    have R5 := Sl.mono R5 hle29
    have Rp_names := Sl.mono Rp_names hle29
    refine W.bslice (α := Str) [(str r25)] ([r25] : List Str) S el23 rfl rfl rfl (by decide) (Go.Eng.encS ⟨rfl, rfl⟩ enc0) ?_
    intro u30 w31 H32 hle33 R34 S
    have Rp_l := Sl.mono Rp_l hle33
    have R5 := Sl.mono R5 hle33
    have Rp_names := Sl.mono Rp_names hle33
    obtain ⟨l35, hl35, hy17⟩ := bindE hy17
    refine W.app (α := Str) (i := 1) S el23 rfl rfl rfl R5 R34 hl35 ?_
    intro v36 w37 H38 hle39 R40 S
    have Rp_l := Sl.mono Rp_l hle39
    have R5 := Sl.mono R5 hle39
    have Rp_names := Sl.mono Rp_names hle39
    refine WL.a (v36) rfl<|WL.e<|WP.g<|WL.w (R.add h10 rfl)<|WL.m (int (wr (y_9 + 1))) rfl<|WL.e ?_
    obtain rfl := oi hy17
    exact ⟨rfl, ⟨H38, v36, h2, rfl, h7, h8, rfl, Rp_l, R40, Rp_names, (S.drop _ (.cons _ (.cons_cons _ .slnil)))⟩⟩
   ·refine WP.condF rfl hc21<|WP.exit ?_
    obtain rfl := oi hy17
    obtain rfl := hy18
    exact ⟨H1, v4, h6, R5, S⟩
 ·rintro f w ⟨H11, v13, h15, R14, S⟩
  refine WP.s<|WP.g<|WL.m (v13) h15<|WL.a (v13) rfl<|WL.e ?_
  obtain rfl := oi h
  refine WP.ret (Out.one rfl S rfl ?_)
  exact R14
end Go.Proofs
