/- A part of the proof of laws of the seat: written by program over the translation. -/
import Derived.Test.YtogfdiigokidaaaGreatDoorPure1
import Derived.Test.YtogfdiigokidaaaGreatDoorGenJ10
namespace Go.Proofs
set_option maxHeartbeats 4000000
set_option maxRecDepth 10000
open Go.Eng Go.Eng.Pure
set_option linter.unusedVariables false
theorem ref19_VaryValue_ok {w0 : World} {H0 : Hp} (hw : Holds w0 H0) (hG : Tryz.Gl w0) (p_name : Str) (p_l : (List GField)) {vp_l : Value} (Rp_l : Sl (α := GField) H0 vp_l p_l) {r : Str} (h : ref19_VaryValue p_name p_l = some r) :
  Con Tryz.prog 103 [(str p_name), vp_l] w0 H0 (fun H' v => v = (str r)) := by
 refine Con.mk (N := 29) Tryz.func103 rfl rfl (by kernel_rfl) rfl ?_
 have S := St.start hw
 refine WP.s<|WP.g<|WL.a (str []) rfl<|WL.e<|WP.s<|WP.g<|WL.m (vp_l) rfl<|WL.m (str p_name) rfl ?_
 obtain ⟨r1, hr1, h⟩ := bindE h
 refine W.call S rfl (ref01_Get_ok S.holds (hG.post S.post) p_l p_name Rp_l hr1) ?_
 rintro v2 w3 H4 hle5 S R6
 have Rp_l := Sl.mono Rp_l hle5
 refine WL.a (v2) rfl<|WL.e<|WP.s<|WP.s<|WP.g<|WL.m (v2) rfl<|WL.w (R.lenL (α := Str) (xs := r1) (H := H4) R6 rfl Tryz.underlying23)<|WL.w (R.eql rfl rfl)<|WL.e ?_
 rcases condE h with ⟨hc7, h⟩ | ⟨hc7, h⟩
 ·refine WP.condT rfl hc7<|WP.s<|WP.g<|WL.a (str []) rfl<|WL.e ?_
  obtain rfl := oi h
  refine WP.ret (Out.one rfl S rfl ?_)
  exact rfl
 ·refine WP.condF rfl hc7<|WP.skip<|WP.s<|WP.s<|WP.g<|WL.m (str p_name) rfl ?_
  obtain ⟨r8, hr8, h⟩ := bindE h
  refine W.call S rfl (ref10_Kind_ok S.holds (hG.post S.post) p_name hr8) ?_
  rintro v9 w10 H11 hle12 S rfl
  have Rp_l := Sl.mono Rp_l hle12
  have R6 := Sl.mono R6 hle12
  refine WL.w (R.neq rfl rfl)<|WL.e ?_
  obtain ⟨j16, hj15, h⟩ := bindE h
  refine WP.cut (fun f w => match j16 with | .inl _ => ∃ (H13 : Hp), f 5 = v2 ∧ Sl (α := Str) H13 v2 r1 ∧ St w0 H0 w H13 [] | .inr _ => False) ?_ ?_
  ·rcases condE hj15 with ⟨hc17, hj15⟩ | ⟨hc17, hj15⟩
   ·refine WP.condT rfl hc17<|WP.s<|WP.g<|WL.m (vp_l) rfl<|WL.m (str p_name) rfl ?_
    obtain ⟨r18, hr18, hj15⟩ := bindE hj15
    refine W.call S rfl (ref01_All_ok S.holds (hG.post S.post) p_l p_name Rp_l hr18) ?_
    rintro v19 w20 H21 hle22 S R23
    have R6 := Sl.mono R6 hle22
    refine WL.a (v19) rfl<|WL.e<|WP.s<|WP.g<|WL.m (v19) rfl<|WL.w (R.lenL (α := Str) (xs := r18) (H := H21) R23 rfl Tryz.underlying23)<|WL.w (R.lss rfl rfl)<|WL.e ?_
    rcases condE hj15 with ⟨hc24, hj15⟩ | ⟨hc24, hj15⟩
    ·refine WP.condT rfl hc24<|WP.s<|WP.g<|WL.m (v19) rfl ?_
     obtain ⟨r25, hr25, hj15⟩ := bindE hj15
     refine W.call S rfl (ref01_Join_ok S.holds (hG.post S.post) r18 R23 hr25) ?_
     rintro v26 w27 H28 hle29 S rfl
     have R6 := Sl.mono R6 hle29
     obtain ⟨r30, hr30, hj15⟩ := bindE hj15
     refine W.call S rfl (ref01_Lower_ok S.holds (hG.post S.post) r25 hr30) ?_
     rintro v31 w32 H33 hle34 S rfl
     have R6 := Sl.mono R6 hle34
     obtain ⟨s35, hs35, hj15⟩ := bindE hj15
     refine WL.w (R.cat (a := [61]) (b := r30) rfl rfl hs35)<|WL.a (str s35) rfl<|WL.e ?_
     obtain rfl := oi hj15
     obtain rfl := oi h
     refine WP.ret (Out.one rfl S rfl ?_)
     exact rfl
    ·refine WP.condF rfl hc24<|WP.skip ?_
     obtain rfl := oi hj15
     exact ⟨H21, rfl, R6, S⟩
   ·refine WP.condF rfl hc17<|WP.skip ?_
    obtain rfl := oi hj15
    exact ⟨H11, rfl, R6, S⟩
  ·intro f w hM
   rcases j16 with _ | e
   ·obtain ⟨H13, h14, R6, S⟩ := hM
    refine WP.s<|WP.g<|WL.m (v2) h14 ?_
    obtain ⟨r36, hr36, h⟩ := bindE h
    refine W.call S rfl (ref01_Join_ok S.holds (hG.post S.post) r1 R6 hr36) ?_
    rintro v37 w38 H39 hle40 S rfl
    obtain ⟨s41, hs41, h⟩ := bindE h
    refine WL.w (R.cat (a := [61]) (b := r36) rfl rfl hs41)<|WL.a (str s41) rfl<|WL.e ?_
    obtain rfl := oi h
    refine WP.ret (Out.one rfl S rfl ?_)
    exact rfl
   ·exact hM.elim
theorem ref19_Snapshot_ok {w0 : World} {H0 : Hp} (hw : Holds w0 H0) (hG : Tryz.Gl w0) (p_names : (List Str)) (p_l : (List GField)) {vp_names : Value} {vp_l : Value} (Rp_names : Sl (α := Str) H0 vp_names p_names) (Rp_l : Sl (α := GField) H0 vp_l p_l) {r : (List Str)} (h : ref19_Snapshot p_names p_l = some r) :
  Con Tryz.prog 53 [vp_names, vp_l] w0 H0 (fun H' v => Sl (α := Str) H' v r) := by
 refine Con.mk (N := 23) Tryz.func53 rfl rfl (by kernel_rfl) rfl ?_
 have S := St.start hw
 refine WP.s<|WP.g<|WL.a (.slice none 0 0) rfl<|WL.e<|WP.s<|WP.g<|WL.a (.slice none 0 0) rfl<|WL.e<|WP.s<|WP.s<|WP.g<|WL.a (int 0) rfl ?_
 refine WL.e ?_
 have S := S.addNil 9 1
 obtain ⟨out_11, hr19, h⟩ := bindE h
 refine WP.cut (fun f w => ∃ (H10 : Hp) (v12 : Value), f 5 = v12 ∧ Sl (α := Str) H10 v12 out_11 ∧ St w0 H0 w H10 [.row v12 9 1 out_11.length]) ?_ ?_
 ·refine WP.block ?_
  refine WP.loopM (ref19_Snapshot_L0 p_names p_l) (fun s f w => match s with | (out_4, i_8) => ∃ (H1 : Hp) (v5 : Value), f 0 = vp_names ∧ f 1 = vp_l ∧ f 5 = v5 ∧ f 6 = (int i_8) ∧ Sl (α := Str) H1 vp_names p_names ∧ Sl (α := GField) H1 vp_l p_l ∧ Sl (α := Str) H1 v5 out_4 ∧ St w0 H0 w H1 [.row v5 9 1 out_4.length]) (([] : List Str), 0) out_11 hr19 ?_ ?_
  ·exact ⟨H0, .slice none 0 0, rfl, rfl, rfl, rfl, Rp_names, Rp_l, Sl.nil, S⟩
  ·intro s f w hI y15 hy16 hy17
   obtain ⟨out_4, i_8⟩ := s
   obtain ⟨H1, v5, h2, h3, h7, h9, Rp_names, Rp_l, R6, S⟩ := hI
   refine WP.s<|WP.s<|WP.g<|WL.m (int i_8) h9<|WL.m (vp_names) h2<|WL.w (R.lenL (α := Str) (xs := p_names) (H := H1) Rp_names rfl Tryz.underlying23)<|WL.w (R.lss rfl rfl)<|WL.e ?_
   rcases condE hy16 with ⟨hc20, hy16⟩ | ⟨hc20, hy16⟩
   ·refine WP.condT rfl hc20<|WP.skip<|WP.s<|WP.block<|WP.g<|WL.m (v5) h7<|WL.m (vp_names) h2<|WL.m (int i_8) h9 ?_
    obtain ⟨x21, hx21, hy16⟩ := bindE hy16
    refine W.idx (α := Str) Rp_names rfl rfl el23 hx21 ?_
    rintro a22 _ hA23 rfl
    refine WL.w (R.loadH (v := str x21) S rfl hA23 lay9 rfl)<|WL.m (vp_l) h3 ?_
    obtain ⟨r24, hr24, hy16⟩ := bindE hy16
    refine W.call S rfl (ref19_VaryValue_ok S.holds (hG.post S.post) x21 p_l Rp_l hr24) ?_
    rintro v25 w26 H27 hle28 S rfl
    have Rp_names := Sl.mono Rp_names hle28
    have Rp_l := Sl.mono Rp_l hle28
    have R6 := Sl.mono R6 hle28
    refine W.bslice (α := Str) [(str r24)] ([r24] : List Str) S el23 rfl rfl rfl (by decide) (Go.Eng.encS ⟨rfl, rfl⟩ enc0) ?_
    intro u29 w30 H31 hle32 R33 S
    have Rp_names := Sl.mono Rp_names hle32
    have Rp_l := Sl.mono Rp_l hle32
    have R6 := Sl.mono R6 hle32
    obtain ⟨l34, hl34, hy16⟩ := bindE hy16
    refine W.app (α := Str) (i := 1) S el23 rfl rfl rfl R6 R33 hl34 ?_
    intro v35 w36 H37 hle38 R39 S
    have Rp_names := Sl.mono Rp_names hle38
    have Rp_l := Sl.mono Rp_l hle38
    have R6 := Sl.mono R6 hle38
    refine WL.a (v35) rfl<|WL.e<|WP.g<|WL.m (int i_8) h9<|WL.w (R.add rfl rfl)<|WL.a (int (wr (i_8 + 1))) rfl<|WL.e ?_
    obtain rfl := oi hy16
    exact ⟨rfl, ⟨H37, v35, h2, h3, rfl, rfl, Rp_names, Rp_l, R39, (S.drop _ (.cons _ (.cons_cons _ .slnil)))⟩⟩
   ·refine WP.condF rfl hc20<|WP.exit ?_
    obtain rfl := oi hy16
    obtain rfl := hy17
    exact ⟨H1, v5, h7, R6, S⟩
 ·rintro f w ⟨H10, v12, h14, R13, S⟩
  refine WP.s<|WP.g<|WL.m (v12) h14<|WL.a (v12) rfl<|WL.e ?_
  obtain rfl := oi h
  refine WP.ret (Out.one rfl S rfl ?_)
  exact R13
theorem fieldline_First_ok {w0 : World} {H0 : Hp} (hw : Holds w0 H0) (hG : Tryz.Gl w0) (p_l : (List GField)) (p_name : Str) {vp_l : Value} (Rp_l : Sl (α := GField) H0 vp_l p_l) {r : (Str × Bool)} (h : fieldline_First p_l p_name = some r) :
  Con Tryz.prog 110 [vp_l, (str p_name)] w0 H0 (fun H' v => v = (.tuple ⟨[(str r.1), (boo r.2)]⟩)) := by
 refine Con.mk (N := 16) Tryz.func110 rfl rfl (by kernel_rfl) rfl ?_
 have S := St.start hw
 refine WP.s<|WP.g<|WL.a (str []) rfl<|WL.a (boo false) rfl<|WL.e<|WP.s<|WP.g<|WL.m (vp_l) rfl<|WL.m (str p_name) rfl ?_
 obtain ⟨r1, hr1, h⟩ := bindE h
 refine W.call S rfl (fieldline_Get_ok S.holds (hG.post S.post) p_l p_name Rp_l hr1) ?_
 rintro v2 w3 H4 hle5 S R6
 refine WL.a (v2) rfl<|WL.e<|WP.s<|WP.s<|WP.g<|WL.m (v2) rfl<|WL.w (R.lenL (α := Str) (xs := r1) (H := H4) R6 rfl Tryz.underlying23)<|WL.w (R.eql rfl rfl)<|WL.e ?_
 rcases condE h with ⟨hc7, h⟩ | ⟨hc7, h⟩
 ·refine WP.condT rfl hc7<|WP.s<|WP.g<|WL.a (str []) rfl<|WL.a (boo false) rfl<|WL.e ?_
  obtain rfl := oi h
  refine WP.ret (Out.two rfl S rfl rfl ?_)
  exact rfl
 ·refine WP.condF rfl hc7<|WP.skip<|WP.s<|WP.g<|WL.m (v2) rfl ?_
  obtain ⟨x8, hx8, h⟩ := bindE h
  refine W.idx (α := Str) R6 rfl rfl el23 hx8 ?_
  rintro a9 _ hA10 rfl
  refine WL.w (R.loadH (v := str x8) S rfl hA10 lay9 rfl)<|WL.a (str x8) rfl<|WL.a (boo true) rfl<|WL.e ?_
  obtain rfl := oi h
  refine WP.ret (Out.two rfl S rfl rfl ?_)
  exact rfl
theorem ascii_Number_ok {w0 : World} {H0 : Hp} (hw : Holds w0 H0) (hG : Tryz.Gl w0) (p_s : Str) {r : (Int × Bool)} (h : ascii_Number p_s = some r) :
  Con Tryz.prog 111 [(str p_s)] w0 H0 (fun H' v => v = (.tuple ⟨[(int r.1), (boo r.2)]⟩)) := by
 refine Con.mk (N := 34) Tryz.func111 rfl rfl (by kernel_rfl) rfl ?_
 have S := St.start hw
 refine WP.s<|WP.g<|WL.a (int 0) rfl<|WL.a (boo false) rfl<|WL.e<|WP.s<|WP.g<|WL.a (int 0) rfl<|WL.e<|WP.s<|WP.s<|WP.g ?_
 refine WL.m (str p_s) rfl<|WL.w (R.lenS (a := p_s) rfl Tryz.underlying9)<|WL.m (int 0) rfl<|WL.e ?_
 obtain ⟨r15, hr16, h⟩ := bindE h
 refine WP.cut (fun f w => match r15 with | .inl n_10 => ∃ (H8 : Hp), f 0 = (str p_s) ∧ f 4 = (int n_10) ∧ St w0 H0 w H8 [] | .inr _ => False) ?_ ?_
 ·refine WP.block ?_
  refine WP.loopM (ascii_Number_L0 p_s) (fun s f w => match s with | (n_3, y_6) => ∃ (H1 : Hp), f 0 = (str p_s) ∧ f 4 = (int n_3) ∧ f 7 = (int (p_s.length : Int)) ∧ f 8 = (int y_6) ∧ St w0 H0 w H1 []) (0, 0) r15 hr16 ?_ ?_
  ·exact ⟨H0, rfl, rfl, rfl, rfl, S⟩
  ·intro s f w hI y12 hy13 hy14
   obtain ⟨n_3, y_6⟩ := s
   obtain ⟨H1, h2, h4, h5, h7, S⟩ := hI
   refine WP.s<|WP.g<|WL.w (R.lss h7 h5)<|WL.e<|WP.s ?_
   rcases condE hy13 with ⟨hc17, hy13⟩ | ⟨hc17, hy13⟩
   ·refine WP.condT rfl hc17<|WP.skip<|WP.s<|WP.block<|WP.s<|WP.g<|WL.m (int y_6) h7<|WL.a (int y_6) rfl<|WL.e<|WP.s<|WP.s<|WP.g ?_
    refine WL.m (str p_s) h2<|WL.m (int y_6) rfl ?_
    obtain ⟨c18, hc18, hy13⟩ := bindE hy13
    refine WL.w (R.idxS rfl rfl Tryz.underlying9 hc18)<|WL.w (R.lss8 (a := c18) (b := 48) rfl rfl)<|WL.m (boo (decide (c18 < 48))) rfl ?_
    obtain ⟨b22, hg20, hy13⟩ := bindE hy13
    refine WL.grp 5 [16, 17, 18, 19] 20 (boo b22) ?_ ?_
    ·rcases boolE (decide (c18 < 48)) with hb19 | hb19
     ·replace hg20 := condT hg20 hb19
      refine WL.n rfl rfl hb19<|WL.n rfl rfl hb19<|WL.n rfl rfl hb19<|WL.n rfl rfl hb19<|WL.w (R.pickT rfl hb19 rfl) ?_
      exact WL.e ⟨(congrArg boo (oi hg20)), ag, rfl⟩
     ·replace hg20 := condF hg20 hb19
      refine WL.y rfl rfl hb19<|WL.m (str p_s) h2<|WL.y rfl rfl hb19<|WL.m (int y_6) rfl<|WL.y rfl rfl hb19 ?_
      obtain ⟨c21, hc21, hg20⟩ := bindE hg20
      refine WL.w (R.idxS rfl rfl Tryz.underlying9 hc21)<|WL.y rfl rfl hb19<|WL.w (R.gtr8 (a := c21) (b := 57) rfl rfl)<|WL.w (R.pickF rfl hb19 rfl) ?_
      exact WL.e ⟨(congrArg boo (oi hg20)), ag, rfl⟩
    ·intro us
     refine WL.e ?_
     rcases condE hy13 with ⟨hc23, hy13⟩ | ⟨hc23, hy13⟩
     ·refine WP.condT rfl hc23<|WP.s<|WP.g<|WL.a (int 0) rfl<|WL.a (boo false) rfl<|WL.e ?_
      obtain rfl := oi hy13
      obtain rfl := hy14
      obtain rfl := oi h
      refine WP.ret (Out.two rfl S rfl rfl ?_)
      exact rfl
     ·refine WP.condF rfl hc23<|WP.skip<|WP.g<|WL.m (int n_3) h4<|WL.w (R.mul rfl rfl)<|WL.m (str p_s) h2<|WL.m (int y_6) rfl ?_
      obtain ⟨c24, hc24, hy13⟩ := bindE hy13
      refine WL.w (R.idxS rfl rfl Tryz.underlying9 hc24)<|WL.w (R.sub8 (a := c24) (b := 48) rfl rfl)<|WL.w (R.i64of8 (a := c24 - 48) rfl Tryz.underlying5 Tryz.underlying2)<|WL.w (R.add rfl rfl)<|WL.w (R.min rfl rfl)<|WL.a (int (if 2147483647 < (wr ((wr (10 * n_3)) + ((c24 - 48).toNat : Int))) then 2147483647 else (wr ((wr (10 * n_3)) + ((c24 - 48).toNat : Int))))) rfl<|WL.e<|WP.g<|WL.w (R.add h7 rfl)<|WL.m (int (wr (y_6 + 1))) rfl<|WL.e ?_
      obtain rfl := oi hy13
      exact ⟨rfl, ⟨H1, h2, rfl, h5, rfl, S⟩⟩
   ·refine WP.condF rfl hc17<|WP.exit ?_
    obtain rfl := oi hy13
    obtain rfl := hy14
    exact ⟨H1, h2, h4, S⟩
 ·intro f w hM
  rcases r15 with n_10 | e
  ·obtain ⟨H8, h9, h11, S⟩ := hM
   refine WP.s<|WP.g<|WL.m (int n_10) h11<|WL.m (str p_s) h9<|WL.w (R.neqS (a := p_s) (b := []) rfl rfl)<|WL.a (int n_10) rfl<|WL.a (boo (p_s != [])) rfl<|WL.e ?_
   obtain rfl := oi h
   refine WP.ret (Out.two rfl S rfl rfl ?_)
   exact rfl
  ·exact hM.elim
theorem date_index_ok {w0 : World} {H0 : Hp} (hw : Holds w0 H0) (hG : Tryz.Gl w0) (p_n : Int) (p_name : (Int → Option Str)) (p_s : Str) {kp_name : FuncId} {cp_name : List Value} (Fp_name : ∀ {w : World} {H : Hp}, H0.le H → Holds w H → Tryz.Gl w → ∀ (x0 : Int) (rr : Str), p_name x0 = some rr → Con Tryz.prog kp_name ([(int x0)] ++ cp_name) w H (fun H' v => v = (str rr))) {r : Int} (h : date_index p_n p_name p_s = some r) :
  Con Tryz.prog 223 [(int p_n), (.func (.func kp_name) #[] cp_name.toArray), (str p_s)] w0 H0 (fun H' v => v = (int r)) := by
 refine Con.mk (N := 19) Tryz.func223 rfl rfl (by kernel_rfl) rfl ?_
 have S := St.start hw
 refine WP.s<|WP.g<|WL.a (int 0) rfl<|WL.e<|WP.s<|WP.s<|WP.g<|WL.m (int p_n) rfl<|WL.m (int 0) rfl<|WL.e ?_
 obtain ⟨r11, hr12, h⟩ := bindE h
 refine WP.cut (fun f w => match r11 with | .inl _ => ∃ (H7 : Hp), St w0 H0 w H7 [] | .inr _ => False) ?_ ?_
 ·refine WP.block ?_
  refine WP.loopM (date_index_L0 p_n p_name p_s) (fun s f w => match s with | y_5 => ∃ (H1 : Hp), f 1 = (.func (.func kp_name) #[] cp_name.toArray) ∧ f 2 = (str p_s) ∧ f 8 = (int p_n) ∧ f 9 = (int y_5) ∧ St w0 H0 w H1 []) 0 r11 hr12 ?_ ?_
  ·exact ⟨H0, rfl, rfl, rfl, rfl, S⟩
  ·intro y_5 f w hI y8 hy9 hy10
   obtain ⟨H1, h2, h3, h4, h6, S⟩ := hI
   refine WP.s<|WP.g<|WL.w (R.lss h6 h4)<|WL.e<|WP.s ?_
   rcases condE hy9 with ⟨hc13, hy9⟩ | ⟨hc13, hy9⟩
   ·refine WP.condT rfl hc13<|WP.skip<|WP.s<|WP.block<|WP.s<|WP.g<|WL.m (int y_5) h6<|WL.a (int y_5) rfl<|WL.e<|WP.s<|WP.g<|WL.m (.func (.func kp_name) #[] cp_name.toArray) h2 ?_
    refine WL.m (int y_5) rfl ?_
    obtain ⟨r14, hr14, hy9⟩ := bindE hy9
    refine W.callv S rfl rfl (Fp_name (S.post.le) S.holds (hG.post S.post) y_5 _ hr14) ?_
    rintro v15 w16 H17 hle18 S rfl
    refine WL.m (str p_s) h3<|WL.w (R.eqlS (a := r14) (b := p_s) rfl rfl)<|WL.e ?_
    rcases condE hy9 with ⟨hc19, hy9⟩ | ⟨hc19, hy9⟩
    ·refine WP.condT rfl hc19<|WP.s<|WP.g<|WL.m (int y_5) rfl<|WL.a (int y_5) rfl<|WL.e ?_
     obtain rfl := oi hy9
     obtain rfl := hy10
     obtain rfl := oi h
     refine WP.ret (Out.one rfl S rfl ?_)
     exact rfl
    ·refine WP.condF rfl hc19<|WP.skip<|WP.g<|WL.w (R.add h6 rfl)<|WL.m (int (wr (y_5 + 1))) rfl<|WL.e ?_
     obtain rfl := oi hy9
     exact ⟨rfl, ⟨H17, h2, h3, h4, rfl, S⟩⟩
   ·refine WP.condF rfl hc13<|WP.exit ?_
    obtain rfl := oi hy9
    obtain rfl := hy10
    exact ⟨H1, S⟩
 ·intro f w hM
  rcases r11 with _ | e
  ·obtain ⟨H7, S⟩ := hM
   refine WP.s<|WP.g<|WL.a (int (-1)) rfl<|WL.e ?_
   obtain rfl := oi h
   refine WP.ret (Out.one rfl S rfl ?_)
   exact rfl
  ·exact hM.elim
theorem date_monthName_ok {w0 : World} {H0 : Hp} (hw : Holds w0 H0) (hG : Tryz.Gl w0) (p_i : Int) {r : Str} (h : date_monthName p_i = some r) :
  Con Tryz.prog 224 [(int p_i)] w0 H0 (fun H' v => v = (str r)) := by
 refine Con.mk (N := 6) Tryz.func224 rfl rfl (by kernel_rfl) rfl ?_
 have S := St.start hw
 refine WP.s<|WP.g<|WL.a (str []) rfl<|WL.e<|WP.s<|WP.g<|WL.w (R.buildArr [(0, (str [74, 97, 110])), (1, (str [70, 101, 98])), (2, (str [77, 97, 114])), (3, (str [65, 112, 114])), (4, (str [77, 97, 121])), (5, (str [74, 117, 110])), (6, (str [74, 117, 108])), (7, (str [65, 117, 103])), (8, (str [83, 101, 112])), (9, (str [79, 99, 116])), (10, (str [78, 111, 118])), (11, (str [68, 101, 99]))] [(str [74, 97, 110]), (str [70, 101, 98]), (str [77, 97, 114]), (str [65, 112, 114]), (str [77, 97, 121]), (str [74, 117, 110]), (str [74, 117, 108]), (str [65, 117, 103]), (str [83, 101, 112]), (str [79, 99, 116]), (str [78, 111, 118]), (str [68, 101, 99])] Tryz.underlying242 lay9 zer242 rfl rfl)<|WL.m (int p_i) rfl ?_
 obtain ⟨s1, hs1, h⟩ := bindE h
 refine WL.w (R.idxA str (l := ([[74, 97, 110], [70, 101, 98], [77, 97, 114], [65, 112, 114], [77, 97, 121], [74, 117, 110], [74, 117, 108], [65, 117, 103], [83, 101, 112], [79, 99, 116], [78, 111, 118], [68, 101, 99]] : List Str)) rfl rfl Tryz.underlying242 lay9 rfl hs1)<|WL.a (str s1) rfl<|WL.e ?_
 obtain rfl := oi h
 refine WP.ret (Out.one rfl S rfl ?_)
 exact rfl
theorem date_leap_ok {w0 : World} {H0 : Hp} (hw : Holds w0 H0) (hG : Tryz.Gl w0) (p_year : Int) {r : Bool} (h : date_leap p_year = some r) :
  Con Tryz.prog 251 [(int p_year)] w0 H0 (fun H' v => v = (boo r)) := by
 refine Con.mk (N := 16) Tryz.func251 rfl rfl (by kernel_rfl) rfl ?_
 have S := St.start hw
 refine WP.s<|WP.g<|WL.a (boo false) rfl<|WL.e<|WP.s<|WP.g<|WL.m (int p_year) rfl ?_
 obtain ⟨n1, hn1, h⟩ := bindE h
 refine WL.w (R.rem' rfl rfl hn1)<|WL.w (R.eql rfl rfl)<|WL.m (boo (n1 == 0)) rfl ?_
 obtain ⟨b9, hg3, h⟩ := bindE h
 refine WL.grp 9 [7, 8, 9, 10, 11, 12, 13, 14] 15 (boo b9) ?_ ?_
 ·rcases boolE (n1 == 0) with hb2 | hb2
  ·replace hg3 := condT hg3 hb2
   refine WL.y rfl rfl hb2<|WL.m (int p_year) rfl<|WL.y rfl rfl hb2 ?_
   obtain ⟨n4, hn4, hg3⟩ := bindE hg3
   refine WL.w (R.rem' rfl rfl hn4)<|WL.y rfl rfl hb2<|WL.w (R.neq rfl rfl)<|WL.y rfl rfl hb2<|WL.m (boo (n4 != 0)) rfl ?_
   obtain ⟨b8, hg6, hg3⟩ := bindE hg3
   refine WL.grp 4 [11, 12, 13] 14 (boo b8) ?_ ?_
   ·rcases boolE (n4 != 0) with hb5 | hb5
    ·replace hg6 := condT hg6 hb5
     refine WL.n rfl rfl hb5<|WL.n rfl rfl hb5<|WL.n rfl rfl hb5<|WL.y rfl rfl hb2<|WL.w (R.pickT rfl hb5 rfl) ?_
     exact WL.e ⟨(congrArg boo (oi hg6)), ag, rfl⟩
    ·replace hg6 := condF hg6 hb5
     refine WL.y rfl rfl hb5<|WL.m (int p_year) rfl<|WL.y rfl rfl hb5 ?_
     obtain ⟨n7, hn7, hg6⟩ := bindE hg6
     refine WL.w (R.rem' rfl rfl hn7)<|WL.y rfl rfl hb5<|WL.w (R.eql rfl rfl)<|WL.y rfl rfl hb2<|WL.w (R.pickF rfl hb5 rfl) ?_
     exact WL.e ⟨(congrArg boo (oi hg6)), ag, rfl⟩
   ·intro us
    refine WL.w (R.pickT rfl hb2 rfl) ?_
    exact WL.e ⟨(congrArg boo (oi hg3)), ag, rfl⟩
  ·replace hg3 := condF hg3 hb2
   refine WL.n rfl rfl hb2<|WL.n rfl rfl hb2<|WL.n rfl rfl hb2<|WL.n rfl rfl hb2<|WL.gund rfl rfl<|WL.gund rfl rfl<|WL.gund rfl rfl<|WL.n rfl rfl hb2<|WL.w (R.pickF rfl hb2 rfl) ?_
   exact WL.e ⟨(congrArg boo (oi hg3)), ag, rfl⟩
 ·intro us
  refine WL.a (boo b9) rfl<|WL.e ?_
  obtain rfl := oi h
  refine WP.ret (Out.one rfl S rfl ?_)
  exact rfl
theorem date_length_ok {w0 : World} {H0 : Hp} (hw : Holds w0 H0) (hG : Tryz.Gl w0) (p_year : Int) (p_month : Int) {r : Int} (h : date_length p_year p_month = some r) :
  Con Tryz.prog 244 [(int p_year), (int p_month)] w0 H0 (fun H' v => v = (int r)) := by
 refine Con.mk (N := 15) Tryz.func244 rfl rfl (by kernel_rfl) rfl ?_
 have S := St.start hw
 refine WP.s<|WP.g<|WL.a (int 0) rfl<|WL.e<|WP.s<|WP.s<|WP.g<|WL.m (int p_month) rfl<|WL.w (R.eql rfl rfl)<|WL.m (boo (p_month == 2)) rfl ?_
 obtain ⟨b8, hg2, h⟩ := bindE h
 refine WL.grpw 3 [8, 9] 10 (boo b8) (fun w => ∃ H' : Hp, H0.le H' ∧ St w0 H0 w H' []) ?_ ?_
 ·rcases boolE (p_month == 2) with hb1 | hb1
  ·replace hg2 := condT hg2 hb1
   refine WL.y rfl rfl hb1<|WL.m (int p_year) rfl<|WL.y rfl rfl hb1 ?_
   obtain ⟨r3, hr3, hg2⟩ := bindE hg2
   refine W.call S rfl (date_leap_ok S.holds (hG.post S.post) p_year hr3) ?_
   rintro v4 w5 H6 hle7 S rfl
   refine WL.w (R.pickT rfl hb1 rfl) ?_
   exact WL.e ⟨(congrArg boo (oi hg2)), ag, ⟨H6, hle7, S⟩⟩
  ·replace hg2 := condF hg2 hb1
   refine WL.n rfl rfl hb1<|WL.n rfl rfl hb1<|WL.w (R.pickF rfl hb1 rfl) ?_
   exact WL.e ⟨(congrArg boo (oi hg2)), ag, ⟨H0, (Hp.le.refl _), S⟩⟩
 ·intro us w10 ⟨H9, hle11, S⟩
  refine WL.e ?_
  rcases condE h with ⟨hc12, h⟩ | ⟨hc12, h⟩
  ·refine WP.condT rfl hc12<|WP.s<|WP.g<|WL.a (int 29) rfl<|WL.e ?_
   obtain rfl := oi h
   refine WP.ret (Out.one rfl S rfl ?_)
   exact rfl
  ·refine WP.condF rfl hc12<|WP.skip<|WP.s<|WP.g<|WL.w (R.buildArr [(0, (int 31)), (1, (int 28)), (2, (int 31)), (3, (int 30)), (4, (int 31)), (5, (int 30)), (6, (int 31)), (7, (int 31)), (8, (int 30)), (9, (int 31)), (10, (int 30)), (11, (int 31))] [(int 31), (int 28), (int 31), (int 30), (int 31), (int 30), (int 31), (int 31), (int 30), (int 31), (int 30), (int 31)] Tryz.underlying257 lay3 zer257 rfl rfl)<|WL.m (int p_month) rfl<|WL.w (R.sub rfl rfl) ?_
   obtain ⟨n13, hn13, h⟩ := bindE h
   refine WL.w (R.idxA int (l := ([31, 28, 31, 30, 31, 30, 31, 31, 30, 31, 30, 31] : List Int)) rfl rfl Tryz.underlying257 lay3 rfl hn13)<|WL.a (int n13) rfl<|WL.e ?_
   obtain rfl := oi h
   refine WP.ret (Out.one rfl S rfl ?_)
   exact rfl
theorem date_before_ok {w0 : World} {H0 : Hp} (hw : Holds w0 H0) (hG : Tryz.Gl w0) (p_year : Int) {r : Int} (h : date_before p_year = some r) :
  Con Tryz.prog 245 [(int p_year)] w0 H0 (fun H' v => v = (int r)) := by
 refine Con.mk (N := 17) Tryz.func245 rfl rfl (by kernel_rfl) rfl ?_
 have S := St.start hw
 refine WP.s<|WP.g<|WL.a (int 0) rfl<|WL.e<|WP.s<|WP.g<|WL.m (int p_year) rfl<|WL.w (R.sub rfl rfl)<|WL.a (int (wr (p_year - 1))) rfl<|WL.e<|WP.s<|WP.g ?_
 refine WL.m (int (wr (p_year - 1))) rfl<|WL.w (R.mul rfl rfl)<|WL.m (int (wr (p_year - 1))) rfl ?_
 obtain ⟨n1, hn1, h⟩ := bindE h
 refine WL.w (R.quo' rfl rfl hn1)<|WL.w (R.add rfl rfl)<|WL.m (int (wr (p_year - 1))) rfl ?_
 obtain ⟨n2, hn2, h⟩ := bindE h
 refine WL.w (R.quo' rfl rfl hn2)<|WL.w (R.sub rfl rfl)<|WL.m (int (wr (p_year - 1))) rfl ?_
 obtain ⟨n3, hn3, h⟩ := bindE h
 refine WL.w (R.quo' rfl rfl hn3)<|WL.w (R.add rfl rfl)<|WL.a (int (wr ((wr ((wr ((wr (365 * (wr (p_year - 1)))) + n1)) - n2)) + n3))) rfl<|WL.e ?_
 obtain rfl := oi h
 refine WP.ret (Out.one rfl S rfl ?_)
 exact rfl
end Go.Proofs
