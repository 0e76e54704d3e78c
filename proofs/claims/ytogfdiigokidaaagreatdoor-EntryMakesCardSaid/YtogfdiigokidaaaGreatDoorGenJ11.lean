/- A part of the proof of laws of the seat: written by program over the translation. -/
import Derived.Test.YtogfdiigokidaaaGreatDoorEng31
import Derived.Test.YtogfdiigokidaaaGreatDoorGenJ10
namespace Go.Proofs
set_option maxHeartbeats 4000000
set_option maxRecDepth 10000
open Go.Eng Go.Eng.Pure
set_option linter.unusedVariables false
theorem ref19_VaryValue_ok {w0 : World} {H0 : Hp} (hw : Holds w0 H0) (hG : Tryz.Gl w0) (p_name : Str) (p_l : (List GField)) {vp_l : Value} (Rp_l : Sl (α := GField) H0 vp_l p_l) {r : Str} (h : ref19_VaryValue p_name p_l = some r) :
  Con Tryz.prog 103 [(str p_name), vp_l] w0 H0 (fun H' v => v = (str r)) := by
 refine Con.mk (N := 29) Tryz.func103 rfl rfl (by kernel_rfl) rfl ?_
 have S := St.start hw
 refine WP.s<|WP.g<|WL.a (str []) rfl<|WL.e<|WP.s<|WP.g<|WL.m (vp_l) rfl<|WL.m (str p_name) rfl ?_
 obtain ⟨r1, hr1, h⟩ := bindE h
 refine W.call S rfl (ref01_Get_ok S.holds (hG.post S.post) p_l p_name Rp_l hr1) ?_
 rintro v2 w3 H4 hle5 S R6
 have Rp_l := Sl.mono Rp_l hle5
 refine WL.a (v2) rfl<|WL.e<|WP.s<|WP.s<|WP.g<|WL.m (v2) rfl<|WL.w (R.lenL (α := Str) (xs := r1) (H := H4) R6 rfl Tryz.underlying23)<|WL.w (R.eql rfl rfl)<|WL.e ?_
 rcases condE h with ⟨hc7, h⟩ | ⟨hc7, h⟩
 ·refine WP.condT rfl hc7<|WP.s<|WP.g<|WL.a (str []) rfl<|WL.e ?_
  obtain rfl := oi h
  refine WP.ret (Out.one rfl S rfl ?_)
  exact rfl
 ·refine WP.condF rfl hc7<|WP.skip<|WP.s<|WP.s<|WP.g<|WL.m (str p_name) rfl ?_
  obtain ⟨r8, hr8, h⟩ := bindE h
  refine W.call S rfl (ref10_Kind_ok S.holds (hG.post S.post) p_name hr8) ?_
  rintro v9 w10 H11 hle12 S rfl
  have Rp_l := Sl.mono Rp_l hle12
  have R6 := Sl.mono R6 hle12
  refine WL.w (R.neq rfl rfl)<|WL.e ?_
  obtain ⟨j16, hj15, h⟩ := bindE h
  refine WP.cut (fun f w => match j16 with | .inl _ => ∃ (H13 : Hp), f 5 = v2 ∧ Sl (α := Str) H13 v2 r1 ∧ St w0 H0 w H13 [] | .inr _ => False) ?_ ?_
  ·rcases condE hj15 with ⟨hc17, hj15⟩ | ⟨hc17, hj15⟩
   ·refine WP.condT rfl hc17<|WP.s<|WP.g<|WL.m (vp_l) rfl<|WL.m (str p_name) rfl ?_
    obtain ⟨r18, hr18, hj15⟩ := bindE hj15
    refine W.call S rfl (ref01_All_ok S.holds (hG.post S.post) p_l p_name Rp_l hr18) ?_
    rintro v19 w20 H21 hle22 S R23
    have R6 := Sl.mono R6 hle22
    refine WL.a (v19) rfl<|WL.e<|WP.s<|WP.g<|WL.m (v19) rfl<|WL.w (R.lenL (α := Str) (xs := r18) (H := H21) R23 rfl Tryz.underlying23)<|WL.w (R.lss rfl rfl)<|WL.e ?_
    rcases condE hj15 with ⟨hc24, hj15⟩ | ⟨hc24, hj15⟩
    ·refine WP.condT rfl hc24<|WP.s<|WP.g<|WL.m (v19) rfl ?_
     obtain ⟨r25, hr25, hj15⟩ := bindE hj15
     refine W.call S rfl (ref01_Join_ok S.holds (hG.post S.post) r18 R23 hr25) ?_
     rintro v26 w27 H28 hle29 S rfl
     have R6 := Sl.mono R6 hle29
     obtain ⟨r30, hr30, hj15⟩ := bindE hj15
     refine W.call S rfl (ref01_Lower_ok S.holds (hG.post S.post) r25 hr30) ?_
     rintro v31 w32 H33 hle34 S rfl
     have R6 := Sl.mono R6 hle34
     obtain ⟨s35, hs35, hj15⟩ := bindE hj15
     refine WL.w (R.cat (a := [61]) (b := r30) rfl rfl hs35)<|WL.a (str s35) rfl<|WL.e ?_
     obtain rfl := oi hj15
     obtain rfl := oi h
     refine WP.ret (Out.one rfl S rfl ?_)
     exact rfl
    ·refine WP.condF rfl hc24<|WP.skip ?_
     obtain rfl := oi hj15
     exact ⟨H21, rfl, R6, S⟩
   ·refine WP.condF rfl hc17<|WP.skip ?_
    obtain rfl := oi hj15
    exact ⟨H11, rfl, R6, S⟩
  ·intro f w hM
   rcases j16 with _ | e
   ·obtain ⟨H13, h14, R6, S⟩ := hM
    refine WP.s<|WP.g<|WL.m (v2) h14 ?_
    obtain ⟨r36, hr36, h⟩ := bindE h
    refine W.call S rfl (ref01_Join_ok S.holds (hG.post S.post) r1 R6 hr36) ?_
    rintro v37 w38 H39 hle40 S rfl
    obtain ⟨s41, hs41, h⟩ := bindE h
    refine WL.w (R.cat (a := [61]) (b := r36) rfl rfl hs41)<|WL.a (str s41) rfl<|WL.e ?_
    obtain rfl := oi h
    refine WP.ret (Out.one rfl S rfl ?_)
    exact rfl
   ·exact hM.elim
theorem ref19_Snapshot_ok {w0 : World} {H0 : Hp} (hw : Holds w0 H0) (hG : Tryz.Gl w0) (p_names : (List Str)) (p_l : (List GField)) {vp_names : Value} {vp_l : Value} (Rp_names : Sl (α := Str) H0 vp_names p_names) (Rp_l : Sl (α := GField) H0 vp_l p_l) {r : (List Str)} (h : ref19_Snapshot p_names p_l = some r) :
  Con Tryz.prog 53 [vp_names, vp_l] w0 H0 (fun H' v => Sl (α := Str) H' v r) := by
 refine Con.mk (N := 23) Tryz.func53 rfl rfl (by kernel_rfl) rfl ?_
 have S := St.start hw
 refine WP.s<|WP.g<|WL.a (.slice none 0 0) rfl<|WL.e<|WP.s<|WP.g<|WL.a (.slice none 0 0) rfl<|WL.e<|WP.s<|WP.s<|WP.g<|WL.a (int 0) rfl ?_
 refine WL.e ?_
 have S := S.addNil 9 1
 obtain ⟨out_11, hr19, h⟩ := bindE h
 refine WP.cut (fun f w => ∃ (H10 : Hp) (v12 : Value), f 5 = v12 ∧ Sl (α := Str) H10 v12 out_11 ∧ St w0 H0 w H10 [.row v12 9 1 out_11.length]) ?_ ?_
 ·refine WP.block ?_
  refine WP.loopM (ref19_Snapshot_L0 p_names p_l) (fun s f w => match s with | (out_4, i_8) => ∃ (H1 : Hp) (v5 : Value), f 0 = vp_names ∧ f 1 = vp_l ∧ f 5 = v5 ∧ f 6 = (int i_8) ∧ Sl (α := Str) H1 vp_names p_names ∧ Sl (α := GField) H1 vp_l p_l ∧ Sl (α := Str) H1 v5 out_4 ∧ St w0 H0 w H1 [.row v5 9 1 out_4.length]) (([] : List Str), 0) out_11 hr19 ?_ ?_
  ·exact ⟨H0, .slice none 0 0, rfl, rfl, rfl, rfl, Rp_names, Rp_l, Sl.nil, S⟩
  ·intro s f w hI y15 hy16 hy17
   obtain ⟨out_4, i_8⟩ := s
   obtain ⟨H1, v5, h2, h3, h7, h9, Rp_names, Rp_l, R6, S⟩ := hI
   refine WP.s<|WP.s<|WP.g<|WL.m (int i_8) h9<|WL.m (vp_names) h2<|WL.w (R.lenL (α := Str) (xs := p_names) (H := H1) Rp_names rfl Tryz.underlying23)<|WL.w (R.lss rfl rfl)<|WL.e ?_
   rcases condE hy16 with ⟨hc20, hy16⟩ | ⟨hc20, hy16⟩
   ·refine WP.condT rfl hc20<|WP.skip<|WP.s<|WP.block<|WP.g<|WL.m (v5) h7<|WL.m (vp_names) h2<|WL.m (int i_8) h9 ?_
    obtain ⟨x21, hx21, hy16⟩ := bindE hy16
    refine W.idx (α := Str) Rp_names rfl rfl el23 hx21 ?_
    rintro a22 _ hA23 rfl
    refine WL.w (R.loadH (v := str x21) S rfl hA23 lay9 rfl)<|WL.m (vp_l) h3 ?_
    obtain ⟨r24, hr24, hy16⟩ := bindE hy16
    refine W.call S rfl (ref19_VaryValue_ok S.holds (hG.post S.post) x21 p_l Rp_l hr24) ?_
    rintro v25 w26 H27 hle28 S rfl
    have Rp_names := Sl.mono Rp_names hle28
    have Rp_l := Sl.mono Rp_l hle28
    have R6 := Sl.mono R6 hle28
    refine W.bslice (α := Str) [(str r24)] ([r24] : List Str) S el23 rfl rfl rfl (by decide) (Go.Eng.encS ⟨rfl, rfl⟩ enc0) ?_
    intro u29 w30 H31 hle32 R33 S
    have Rp_names := Sl.mono Rp_names hle32
    have Rp_l := Sl.mono Rp_l hle32
    have R6 := Sl.mono R6 hle32
    obtain ⟨l34, hl34, hy16⟩ := bindE hy16
    refine W.app (α := Str) (i := 1) S el23 rfl rfl rfl R6 R33 hl34 ?_
    intro v35 w36 H37 hle38 R39 S
    have Rp_names := Sl.mono Rp_names hle38
    have Rp_l := Sl.mono Rp_l hle38
    have R6 := Sl.mono R6 hle38
    refine WL.a (v35) rfl<|WL.e<|WP.g<|WL.m (int i_8) h9<|WL.w (R.add rfl rfl)<|WL.a (int (wr (i_8 + 1))) rfl<|WL.e ?_
    obtain rfl := oi hy16
    exact ⟨rfl, ⟨H37, v35, h2, h3, rfl, rfl, Rp_names, Rp_l, R39, (S.drop _ (.cons _ (.cons_cons _ .slnil)))⟩⟩
   ·refine WP.condF rfl hc20<|WP.exit ?_
    obtain rfl := oi hy16
    obtain rfl := hy17
    exact ⟨H1, v5, h7, R6, S⟩
 ·rintro f w ⟨H10, v12, h14, R13, S⟩
  refine WP.s<|WP.g<|WL.m (v12) h14<|WL.a (v12) rfl<|WL.e ?_
  obtain rfl := oi h
  refine WP.ret (Out.one rfl S rfl ?_)
  exact R13
theorem ref26_Make_ok {w0 : World} {H0 : Hp} (hw : Holds w0 H0) (hG : Tryz.Gl w0) (p_q : GRequest) (p_r : GResponse) (p_requested : Int) (p_received : Int) {vp_q3 : Value} {vp_r3 : Value} (Rp_q3 : Sl (α := GField) H0 vp_q3 p_q.fFields) (Rp_r3 : Sl (α := GField) H0 vp_r3 p_r.fFields) {r : (GEntry × (List GAxis))} (h : ref26_Make p_q p_r p_requested p_received = some r) :
  Con Tryz.prog 20 [(agg [(str p_q.fMethod), (str p_q.fTarget), (int p_q.fMinor), vp_q3, (str p_q.fBody)]), (agg [(int p_r.fMinor), (int p_r.fStatus), (str p_r.fReason), vp_r3, (str p_r.fBody)]), (int p_requested), (int p_received)] w0 H0 (fun H' v => ∃ u1 u2 u3 u4 u5 : Value, v = (.tuple ⟨[(agg [u1, u2, u3, (str r.1.fReason), u4, (str r.1.fBody), (int r.1.fRequested), (int r.1.fReceived)]), u5]⟩) ∧ Sl (α := (List Str)) H' u1 r.1.fKeys ∧ Sl (α := Str) H' u2 r.1.fVary ∧ Sl (α := Str) H' u3 r.1.fSnapshot ∧ Sl (α := GField) H' u4 r.1.fFields ∧ Sl (α := GAxis) H' u5 r.2) := by
 refine Con.mk (N := 62) Tryz.func20 rfl rfl (by kernel_rfl) rfl ?_
 have S := St.start hw
 refine WP.s<|WP.g<|W.box [(str p_q.fMethod), (str p_q.fTarget), (int p_q.fMinor), vp_q3, (str p_q.fBody)] S rfl rfl ?_
 intro b1 w2 S
 refine W.box [(int p_r.fMinor), (int p_r.fStatus), (str p_r.fReason), vp_r3, (str p_r.fBody)] S rfl rfl ?_
 intro b3 w4 S
 refine W.alloc [(.slice none 0 0), (.slice none 0 0), (.slice none 0 0), (str []), (.slice none 0 0), (str []), (int 0), (int 0)] S zer26 ?_
 intro b5 w6 S
 refine WL.a (.slice none 0 0) rfl<|WL.e<|WP.s ?_
 obtain ⟨r7, hr7, h⟩ := bindE h
 refine WP.cut (fun f w => ∃ (H16 : Hp) (b21 : Nat) (v22 : Value), f 4 = (ptr b1 0) ∧ f 5 = (ptr b3 0) ∧ f 8 = (ptr b5 0) ∧ f 10 = (ptr b21 0) ∧ Sl (α := GField) H16 v22 r7 ∧ Sl (α := GField) H16 vp_r3 p_r.fFields ∧ Sl (α := GField) H16 vp_q3 p_q.fFields ∧ St w0 H0 w H16 [.box b21 26 [(.slice none 0 0), (.slice none 0 0), (.slice none 0 0), (str p_r.fReason), v22, (str p_r.fBody), (int p_requested), (int p_received)], .box b5 26 [(.slice none 0 0), (.slice none 0 0), (.slice none 0 0), (str []), (.slice none 0 0), (str []), (int 0), (int 0)], .box b3 30 [(int p_r.fMinor), (int p_r.fStatus), (str p_r.fReason), vp_r3, (str p_r.fBody)], .box b1 40 [(str p_q.fMethod), (str p_q.fTarget), (int p_q.fMinor), vp_q3, (str p_q.fBody)]]) ?_ ?_
 ·refine WP.drawC (Cl w0 H0 H0 [.box b5 26 [(.slice none 0 0), (.slice none 0 0), (.slice none 0 0), (str []), (.slice none 0 0), (str []), (int 0), (int 0)], .box b3 30 [(int p_r.fMinor), (int p_r.fStatus), (str p_r.fReason), vp_r3, (str p_r.fBody)], .box b1 40 [(str p_q.fMethod), (str p_q.fTarget), (int p_q.fMinor), vp_q3, (str p_q.fBody)]]) (by kernel_rfl) 12 rfl #[false, false, false, false, false, false, false, false, false, false, false, false] rfl ?_
  have S := S.drew
  refine WC.take (i := 0) #[true, false, false, false, false, false, false, false, false, false, false, false] rfl (by kernel_rfl) (by kernel_rfl) (by kernel_rfl) rfl (fun _ _ => (R.fieldB rfl fld30_2))<|WC.take (i := 1) #[true, true, false, false, false, false, false, false, false, false, false, false] rfl (by kernel_rfl) (by kernel_rfl) (by kernel_rfl) rfl (fun w hw => by obtain ⟨_, hq, S⟩ := hw; exact (R.loadB (i := 1) (v := str p_r.fReason) S rfl rfl lay9 rfl))<|WC.take (i := 2) #[true, true, true, false, false, false, false, false, false, false, false, false] rfl (by kernel_rfl) (by kernel_rfl) (by kernel_rfl) rfl (fun _ _ => (R.fieldB rfl fld30_3))<|WC.take (i := 3) #[true, true, true, true, false, false, false, false, false, false, false, false] rfl (by kernel_rfl) (by kernel_rfl) (by kernel_rfl) rfl (fun w hw => by obtain ⟨_, hq, S⟩ := hw; exact (R.loadB (i := 1) (v := vp_r3) S rfl rfl lay24 rfl))<|WC.take (i := 5) #[true, true, true, true, false, true, false, false, false, false, false, false] rfl (by kernel_rfl) (by kernel_rfl) (by kernel_rfl) rfl (fun _ _ => (R.fieldB rfl fld30_4))<|WC.take (i := 6) #[true, true, true, true, false, true, true, false, false, false, false, false] rfl (by kernel_rfl) (by kernel_rfl) (by kernel_rfl) rfl (fun w hw => by obtain ⟨_, hq, S⟩ := hw; exact (R.loadB (i := 1) (v := str p_r.fBody) S rfl rfl lay9 rfl))<|WC.take (i := 7) #[true, true, true, true, false, true, true, true, false, false, false, false] rfl (by kernel_rfl) (by kernel_rfl) (by kernel_rfl) rfl (fun _ _ => (R.mv (v := int p_requested) rfl))<|WC.take (i := 8) #[true, true, true, true, false, true, true, true, true, false, false, false] rfl (by kernel_rfl) (by kernel_rfl) (by kernel_rfl) rfl (fun _ _ => (R.mv (v := int p_received) rfl)) ?_
  refine WC.next (rs := [4, 10]) ⟨H0, (Hp.le.refl _), S.drop _ (.cons_cons _ (.cons_cons _ (.cons_cons _ .slnil)))⟩ (by kernel_rfl) (List.cons_ne_nil _ _) (allS ?_ (all1 ?_))
  ·refine Nxt.mk (o := _) #[true, true, true, true, true, true, true, true, true, false, false, false] rfl rfl<|W.call S rfl (ref19_Strip_ok S.holds (hG.post S.post) p_r.fFields Rp_r3 hr7) ?_
   rintro v26 w27 H28 hle29 S R30
   have Rp_q3 := Sl.mono Rp_q3 hle29
   have Rp_r3 := Sl.mono Rp_r3 hle29
   refine WL.e<|WC.take (i := 9) #[true, true, true, true, true, true, true, true, true, true, false, false] rfl (by kernel_rfl) (by kernel_rfl) (by kernel_rfl) rfl (fun _ _ => (R.build [(3, (str p_r.fReason)), (4, v26), (5, (str p_r.fBody)), (6, (int p_requested)), (7, (int p_received))] [(.slice none 0 0), (.slice none 0 0), (.slice none 0 0), (str p_r.fReason), v26, (str p_r.fBody), (int p_requested), (int p_received)] bp26 zer26 (by kernel_rfl) (by obtain ⟨_, _, rfl, _⟩ := R30; rfl))) ?_
   refine WC.next (rs := [10]) ⟨H28, hle29, S.drop _ (.cons_cons _ (.cons_cons _ (.cons_cons _ .slnil)))⟩ (by kernel_rfl) (List.cons_ne_nil _ _) (all1 ?_)
   refine Nxt.mk (o := _) #[true, true, true, true, true, true, true, true, true, true, true, false] rfl rfl<|W.alloc [(.slice none 0 0), (.slice none 0 0), (.slice none 0 0), (str []), (.slice none 0 0), (str []), (int 0), (int 0)] S zer26 ?_
   intro b31 w32 S
   refine WL.e ?_
   refine WC.next (rs := [11]) ⟨H28, hle29, S.drop _ (.cons _ (.cons_cons _ (.cons_cons _ (.cons_cons _ .slnil))))⟩ (by kernel_rfl) (List.cons_ne_nil _ _) (all1 ?_)
   refine Nxt.mk (o := _) #[true, true, true, true, true, true, true, true, true, true, true, true] rfl rfl<|W.store (i := 0) [(.slice none 0 0), (.slice none 0 0), (.slice none 0 0), (str p_r.fReason), v26, (str p_r.fBody), (int p_requested), (int p_received)] S rfl rfl rfl lay26 rfl (AllOne.all (l := [(.slice none 0 0), (.slice none 0 0), (.slice none 0 0), (str p_r.fReason), v26, (str p_r.fBody), (int p_requested), (int p_received)]) (.cons rfl (.cons rfl (.cons rfl (.cons rfl (.cons (Sl.oneC R30) (.cons rfl (.cons rfl (.cons rfl .nil))))))))) (Nat.le_of_ble_eq_true rfl) rfl ?_
   intro w33 S
   refine WL.e<|WC.done ⟨H28, hle29, S.drop _ (.cons _ (.cons_cons _ (.cons_cons _ (.cons_cons _ .slnil))))⟩ (by kernel_rfl) ?_
   have S3 := S
   replace S3 := S3.front 3 rfl
   replace S3 := S3.front 3 rfl
   replace S3 := S3.front 3 rfl
   replace S3 := S3.front 3 rfl
   replace S3 : St w0 H0 _ H28 [.box b31 26 [(.slice none 0 0), (.slice none 0 0), (.slice none 0 0), (str p_r.fReason), v26, (str p_r.fBody), (int p_requested), (int p_received)], .box b5 26 [(.slice none 0 0), (.slice none 0 0), (.slice none 0 0), (str []), (.slice none 0 0), (str []), (int 0), (int 0)], .box b3 30 [(int p_r.fMinor), (int p_r.fStatus), (str p_r.fReason), vp_r3, (str p_r.fBody)], .box b1 40 [(str p_q.fMethod), (str p_q.fTarget), (int p_q.fMinor), vp_q3, (str p_q.fBody)]] := S3
   replace S3 : St w0 H0 _ H28 [.box b31 26 [(.slice none 0 0), (.slice none 0 0), (.slice none 0 0), (str p_r.fReason), v26, (str p_r.fBody), (int p_requested), (int p_received)], .box b5 26 [(.slice none 0 0), (.slice none 0 0), (.slice none 0 0), (str []), (.slice none 0 0), (str []), (int 0), (int 0)], .box b3 30 [(int p_r.fMinor), (int p_r.fStatus), (str p_r.fReason), vp_r3, (str p_r.fBody)], .box b1 40 [(str p_q.fMethod), (str p_q.fTarget), (int p_q.fMinor), vp_q3, (str p_q.fBody)]] := S3.drop _ (.cons_cons _ (.cons_cons _ (.cons_cons _ (.cons_cons _ .slnil))))
   exact ⟨H28, b31, v26, rfl, rfl, rfl, rfl, R30, Rp_r3, Rp_q3, S3⟩
  ·refine Nxt.mk (o := _) #[true, true, true, true, false, true, true, true, true, false, true, false] rfl rfl<|W.alloc [(.slice none 0 0), (.slice none 0 0), (.slice none 0 0), (str []), (.slice none 0 0), (str []), (int 0), (int 0)] S zer26 ?_
   intro b34 w35 S
   refine WL.e ?_
   refine WC.next (rs := [4]) ⟨H0, (Hp.le.refl _), S.drop _ (.cons _ (.cons_cons _ (.cons_cons _ (.cons_cons _ .slnil))))⟩ (by kernel_rfl) (List.cons_ne_nil _ _) (all1 ?_)
   refine Nxt.mk (o := _) #[true, true, true, true, true, true, true, true, true, false, true, false] rfl rfl<|W.call S rfl (ref19_Strip_ok S.holds (hG.post S.post) p_r.fFields Rp_r3 hr7) ?_
   rintro v36 w37 H38 hle39 S R40
   have Rp_q3 := Sl.mono Rp_q3 hle39
   have Rp_r3 := Sl.mono Rp_r3 hle39
   refine WL.e<|WC.take (i := 9) #[true, true, true, true, true, true, true, true, true, true, true, false] rfl (by kernel_rfl) (by kernel_rfl) (by kernel_rfl) rfl (fun _ _ => (R.build [(3, (str p_r.fReason)), (4, v36), (5, (str p_r.fBody)), (6, (int p_requested)), (7, (int p_received))] [(.slice none 0 0), (.slice none 0 0), (.slice none 0 0), (str p_r.fReason), v36, (str p_r.fBody), (int p_requested), (int p_received)] bp26 zer26 (by kernel_rfl) (by obtain ⟨_, _, rfl, _⟩ := R40; rfl))) ?_
   refine WC.next (rs := [11]) ⟨H38, hle39, S.drop _ (.cons _ (.cons_cons _ (.cons_cons _ (.cons_cons _ .slnil))))⟩ (by kernel_rfl) (List.cons_ne_nil _ _) (all1 ?_)
   refine Nxt.mk (o := _) #[true, true, true, true, true, true, true, true, true, true, true, true] rfl rfl<|W.store (i := 0) [(.slice none 0 0), (.slice none 0 0), (.slice none 0 0), (str p_r.fReason), v36, (str p_r.fBody), (int p_requested), (int p_received)] S rfl rfl rfl lay26 rfl (AllOne.all (l := [(.slice none 0 0), (.slice none 0 0), (.slice none 0 0), (str p_r.fReason), v36, (str p_r.fBody), (int p_requested), (int p_received)]) (.cons rfl (.cons rfl (.cons rfl (.cons rfl (.cons (Sl.oneC R40) (.cons rfl (.cons rfl (.cons rfl .nil))))))))) (Nat.le_of_ble_eq_true rfl) rfl ?_
   intro w41 S
   refine WL.e<|WC.done ⟨H38, hle39, S.drop _ (.cons _ (.cons_cons _ (.cons_cons _ (.cons_cons _ .slnil))))⟩ (by kernel_rfl) ?_
   have S3 := S
   replace S3 := S3.front 3 rfl
   replace S3 := S3.front 3 rfl
   replace S3 := S3.front 3 rfl
   replace S3 := S3.front 3 rfl
   replace S3 : St w0 H0 _ H38 [.box b34 26 [(.slice none 0 0), (.slice none 0 0), (.slice none 0 0), (str p_r.fReason), v36, (str p_r.fBody), (int p_requested), (int p_received)], .box b5 26 [(.slice none 0 0), (.slice none 0 0), (.slice none 0 0), (str []), (.slice none 0 0), (str []), (int 0), (int 0)], .box b3 30 [(int p_r.fMinor), (int p_r.fStatus), (str p_r.fReason), vp_r3, (str p_r.fBody)], .box b1 40 [(str p_q.fMethod), (str p_q.fTarget), (int p_q.fMinor), vp_q3, (str p_q.fBody)]] := S3
   replace S3 : St w0 H0 _ H38 [.box b34 26 [(.slice none 0 0), (.slice none 0 0), (.slice none 0 0), (str p_r.fReason), v36, (str p_r.fBody), (int p_requested), (int p_received)], .box b5 26 [(.slice none 0 0), (.slice none 0 0), (.slice none 0 0), (str []), (.slice none 0 0), (str []), (int 0), (int 0)], .box b3 30 [(int p_r.fMinor), (int p_r.fStatus), (str p_r.fReason), vp_r3, (str p_r.fBody)], .box b1 40 [(str p_q.fMethod), (str p_q.fTarget), (int p_q.fMinor), vp_q3, (str p_q.fBody)]] := S3.drop _ (.cons_cons _ (.cons_cons _ (.cons_cons _ (.cons_cons _ .slnil))))
   exact ⟨H38, b34, v36, rfl, rfl, rfl, rfl, R40, Rp_r3, Rp_q3, S3⟩
 ·rintro f w ⟨H16, b21, v22, h17, h18, h19, h20, R23, R24, R25, S⟩
  refine WP.s<|WP.g<|WL.w (R.fieldB h18 fld30_3)<|WL.w (R.loadB (i := 2) (v := vp_r3) S rfl rfl lay24 rfl) ?_
  obtain ⟨r42, hr42, h⟩ := bindE h
  refine W.call S rfl (ref10_ParseVariants_ok S.holds (hG.post S.post) p_r.fFields R24 hr42) ?_
  rintro v43 w44 H45 hle46 S ⟨u47, rfl, R48⟩
  have R24 := Sl.mono R24 hle46
  have R23 := Sl.mono R23 hle46
  have R25 := Sl.mono R25 hle46
  refine WL.m (.tuple ⟨[u47, (int r42.2)]⟩) rfl<|WL.w (R.ext rfl rfl)<|WL.w (R.ext rfl rfl)<|WL.a (u47) rfl<|WL.a (int r42.2) rfl<|WL.e<|WP.s<|WP.g<|WL.w (R.fieldB h18 fld30_3)<|WL.w (R.loadB (i := 2) (v := vp_r3) S rfl rfl lay24 rfl)<|WL.m (u47) rfl ?_
  obtain ⟨r49, hr49, h⟩ := bindE h
  refine W.call S rfl (ref10_ParseKeys_ok S.holds (hG.post S.post) p_r.fFields r42.1 R24 R48 hr49) ?_
  rintro v50 w51 H52 hle53 S ⟨u54, rfl, R55⟩
  have R24 := Sl.mono R24 hle53
  have R48 := Sl.mono R48 hle53
  have R23 := Sl.mono R23 hle53
  have R25 := Sl.mono R25 hle53
  refine WL.m (.tuple ⟨[u54, (int r49.2)]⟩) rfl<|WL.w (R.ext rfl rfl)<|WL.w (R.ext rfl rfl)<|WL.a (u54) rfl<|WL.a (int r49.2) rfl<|WL.e<|WP.s<|WP.s<|WP.g<|WL.m (int r42.2) rfl<|WL.w (R.eql rfl rfl)<|WL.m (boo (r42.2 == 0)) rfl ?_
  refine WL.grp 3 [41, 42] 43 (boo ((r42.2 == 0) && (r49.2 == 0))) ?_ ?_
  ·rcases boolE (r42.2 == 0) with hb56 | hb56
   ·refine WL.y rfl rfl hb56<|WL.m (int r49.2) rfl<|WL.y rfl rfl hb56<|WL.w (R.eql rfl rfl)<|WL.w (R.pickT rfl hb56 rfl) ?_
    exact WL.e ⟨(andT hb56), ag, rfl⟩
   ·refine WL.n rfl rfl hb56<|WL.n rfl rfl hb56<|WL.w (R.pickF rfl hb56 rfl) ?_
    exact WL.e ⟨(andF hb56), ag, rfl⟩
  ·intro us
   refine WL.e ?_
   rcases condE h with ⟨hc58, h⟩ | ⟨hc58, h⟩
   ·refine WP.condT rfl hc58<|WP.s<|WP.g<|WL.m (u54) rfl<|WL.w (R.fieldB h20 fld26_0)<|W.storeSl (α := (List Str)) (i := 0) [u54, (.slice none 0 0), (.slice none 0 0), (str p_r.fReason), v22, (str p_r.fBody), (int p_requested), (int p_received)] S R55 rfl rfl rfl lay22 (Nat.le_of_ble_eq_true rfl) rfl ?_
    intro w59 S
    refine WL.e<|WP.s<|WP.g<|WL.w (R.loadBN (i := 0) (vs := [u54, (.slice none 0 0), (.slice none 0 0), (str p_r.fReason), v22, (str p_r.fBody), (int p_requested), (int p_received)]) S h20 rfl lay26 rfl rfl)<|WL.m (u47) rfl<|W.store (i := 1) [u54, (.slice none 0 0), (.slice none 0 0), (str p_r.fReason), v22, (str p_r.fBody), (int p_requested), (int p_received)] S h19 rfl rfl lay26 rfl (AllOne.all (l := [u54, (.slice none 0 0), (.slice none 0 0), (str p_r.fReason), v22, (str p_r.fBody), (int p_requested), (int p_received)]) (.cons (Sl.oneC R55) (.cons rfl (.cons rfl (.cons rfl (.cons (Sl.oneC R23) (.cons rfl (.cons rfl (.cons rfl .nil))))))))) (Nat.le_of_ble_eq_true rfl) rfl ?_
    intro w60 S
    refine WL.a (u47) rfl<|WL.e ?_
    obtain rfl := oi h
    refine WP.ret (Out.two rfl S (Res.cellB (i := 1) (cs := [u54, (.slice none 0 0), (.slice none 0 0), (str p_r.fReason), v22, (str p_r.fBody), (int p_requested), (int p_received)]) S h19 rfl lay26 rfl rfl) rfl ?_)
    exact ⟨_, _, _, _, _, rfl, R55, Sl.nil, Sl.nil, R23, R48⟩
   ·refine WP.condF rfl hc58<|WP.skip<|WP.s<|WP.g<|WL.w (R.fieldB h18 fld30_3)<|WL.w (R.loadB (i := 2) (v := vp_r3) S rfl rfl lay24 rfl) ?_
    obtain ⟨r61, hr61, h⟩ := bindE h
    refine W.call S rfl (ref19_VaryNames_ok S.holds (hG.post S.post) p_r.fFields R24 hr61) ?_
    rintro v62 w63 H64 hle65 S ⟨u66, rfl, R67⟩
    have R23 := Sl.mono R23 hle65
    have R25 := Sl.mono R25 hle65
    refine WL.m (.tuple ⟨[u66, (boo r61.2)]⟩) rfl<|WL.w (R.ext rfl rfl)<|WL.w (R.ext rfl rfl)<|WL.w (R.fieldB h20 fld26_1)<|W.storeSl (α := Str) (i := 0) [(.slice none 0 0), u66, (.slice none 0 0), (str p_r.fReason), v22, (str p_r.fBody), (int p_requested), (int p_received)] S R67 rfl rfl rfl lay23 (Nat.le_of_ble_eq_true rfl) rfl ?_
    intro w68 S
    refine WL.e<|WP.s<|WP.g<|WL.w (R.fieldB h20 fld26_1)<|WL.w (R.loadB (i := 0) (v := u66) S rfl rfl lay23 rfl)<|WL.w (R.fieldB h17 fld40_3)<|WL.w (R.loadB (i := 3) (v := vp_q3) S rfl rfl lay24 rfl) ?_
    obtain ⟨r69, hr69, h⟩ := bindE h
    refine W.call S rfl (ref19_Snapshot_ok S.holds (hG.post S.post) r61.1 p_q.fFields R67 R25 hr69) ?_
    rintro v70 w71 H72 hle73 S R74
    have R67 := Sl.mono R67 hle73
    have R23 := Sl.mono R23 hle73
    refine WL.w (R.fieldB h20 fld26_2)<|W.storeSl (α := Str) (i := 0) [(.slice none 0 0), u66, v70, (str p_r.fReason), v22, (str p_r.fBody), (int p_requested), (int p_received)] S R74 rfl rfl rfl lay23 (Nat.le_of_ble_eq_true rfl) rfl ?_
    intro w75 S
    refine WL.e<|WP.s<|WP.g<|WL.w (R.loadBN (i := 0) (vs := [(.slice none 0 0), u66, v70, (str p_r.fReason), v22, (str p_r.fBody), (int p_requested), (int p_received)]) S h20 rfl lay26 rfl rfl)<|W.store (i := 1) [(.slice none 0 0), u66, v70, (str p_r.fReason), v22, (str p_r.fBody), (int p_requested), (int p_received)] S h19 rfl rfl lay26 rfl (AllOne.all (l := [(.slice none 0 0), u66, v70, (str p_r.fReason), v22, (str p_r.fBody), (int p_requested), (int p_received)]) (.cons rfl (.cons (Sl.oneC R67) (.cons (Sl.oneC R74) (.cons rfl (.cons (Sl.oneC R23) (.cons rfl (.cons rfl (.cons rfl .nil))))))))) (Nat.le_of_ble_eq_true rfl) rfl ?_
    intro w76 S
    refine WL.a (.slice none 0 0) rfl<|WL.e ?_
    obtain rfl := oi h
    refine WP.ret (Out.two rfl S (Res.cellB (i := 1) (cs := [(.slice none 0 0), u66, v70, (str p_r.fReason), v22, (str p_r.fBody), (int p_requested), (int p_received)]) S h19 rfl lay26 rfl rfl) rfl ?_)
    exact ⟨_, _, _, _, _, rfl, Sl.nil, R67, R74, R23, Sl.nil⟩
theorem ref26_SameKeys_ok {w0 : World} {H0 : Hp} (hw : Holds w0 H0) (hG : Tryz.Gl w0) (p_a : (List (List Str))) (p_b : (List (List Str))) {vp_a : Value} {vp_b : Value} (Rp_a : Sl (α := (List Str)) H0 vp_a p_a) (Rp_b : Sl (α := (List Str)) H0 vp_b p_b) {r : Bool} (h : ref26_SameKeys p_a p_b = some r) :
  Con Tryz.prog 54 [vp_a, vp_b] w0 H0 (fun H' v => v = (boo r)) := by
 refine Con.mk (N := 27) Tryz.func54 rfl rfl (by kernel_rfl) rfl ?_
 have S := St.start hw
 refine WP.s<|WP.g<|WL.a (boo false) rfl<|WL.e<|WP.s<|WP.s<|WP.g<|WL.m (vp_a) rfl<|WL.w (R.lenL (α := (List Str)) (xs := p_a) (H := H0) Rp_a rfl Tryz.underlying22)<|WL.m (vp_b) rfl<|WL.w (R.lenL (α := (List Str)) (xs := p_b) (H := H0) Rp_b rfl Tryz.underlying22)<|WL.w (R.neq rfl rfl) ?_
 refine WL.e ?_
 rcases condE h with ⟨hc1, h⟩ | ⟨hc1, h⟩
 ·refine WP.condT rfl hc1<|WP.s<|WP.g<|WL.a (boo false) rfl<|WL.e ?_
  obtain rfl := oi h
  refine WP.ret (Out.one rfl S rfl ?_)
  exact rfl
 ·refine WP.condF rfl hc1<|WP.skip<|WP.s<|WP.s<|WP.g<|WL.a (int 0) rfl<|WL.e ?_
  obtain ⟨r11, hr12, h⟩ := bindE h
  refine WP.cut (fun f w => match r11 with | .inl _ => ∃ (H7 : Hp), St w0 H0 w H7 [] | .inr _ => False) ?_ ?_
  ·refine WP.block ?_
   refine WP.loopM (ref26_SameKeys_L0 p_a p_b) (fun s f w => match s with | i_5 => ∃ (H2 : Hp), f 0 = vp_a ∧ f 1 = vp_b ∧ f 5 = (int i_5) ∧ Sl (α := (List Str)) H2 vp_a p_a ∧ Sl (α := (List Str)) H2 vp_b p_b ∧ St w0 H0 w H2 []) 0 r11 hr12 ?_ ?_
   ·exact ⟨H0, rfl, rfl, rfl, Rp_a, Rp_b, S⟩
   ·intro i_5 f w hI y8 hy9 hy10
    obtain ⟨H2, h3, h4, h6, Rp_a, Rp_b, S⟩ := hI
    refine WP.s<|WP.s<|WP.g<|WL.m (int i_5) h6<|WL.m (vp_a) h3<|WL.w (R.lenL (α := (List Str)) (xs := p_a) (H := H2) Rp_a rfl Tryz.underlying22)<|WL.w (R.lss rfl rfl)<|WL.e ?_
    rcases condE hy9 with ⟨hc13, hy9⟩ | ⟨hc13, hy9⟩
    ·refine WP.condT rfl hc13<|WP.skip<|WP.s<|WP.block<|WP.s<|WP.quiet S (by kernel_rfl) (by kernel_rfl)<|WQ.val (fun _ _ => (R.mv (v := vp_a) h3))<|WQ.val (fun _ _ => (R.mv (v := int i_5) h6)) ?_
     obtain ⟨x17, hx17, hy9⟩ := bindE hy9
     refine WQ.idx (α := (List Str)) Rp_a rfl rfl el22 hx17 ?_
     rintro a18 _ hA19 ⟨v20, rfl, R21⟩
     refine WQ.val (fun w hw => by obtain ⟨_, hq, S⟩ := hw; exact (R.loadH (v := v20) S rfl (At.mono hA19 hq (by simp)) lay23 rfl))<|WQ.val (fun _ _ => (R.mv (v := vp_b) h4))<|WQ.val (fun _ _ => (R.mv (v := int i_5) h6)) ?_
     obtain ⟨x22, hx22, hy9⟩ := bindE hy9
     refine WQ.idx (α := (List Str)) Rp_b rfl rfl el22 hx22 ?_
     rintro a23 _ hA24 ⟨v25, rfl, R26⟩
     refine WQ.val (fun w hw => by obtain ⟨_, hq, S⟩ := hw; exact (R.loadH (v := v25) S rfl (At.mono hA24 hq (by simp)) lay23 rfl)) ?_
     obtain ⟨r27, hr27, hy9⟩ := bindE hy9
     refine WQ.call (v := boo r27) rfl (fun w H' hq S => ref10_SameStrings_ok S.holds (hG.post S.post) x17 x22 (Sl.mono R21 hq) (Sl.mono R26 hq) hr27)<|WQ.val (fun _ _ => (R.not rfl))<|WQ.nil ?_
     intro w14 H15 hle16 S
     have Rp_a := Sl.mono Rp_a hle16
     have Rp_b := Sl.mono Rp_b hle16
     rcases condE hy9 with ⟨hc32, hy9⟩ | ⟨hc32, hy9⟩
     ·refine WP.condT rfl hc32<|WP.s<|WP.g<|WL.a (boo false) rfl<|WL.e ?_
      obtain rfl := oi hy9
      obtain rfl := hy10
      obtain rfl := oi h
      refine WP.ret (Out.one rfl S rfl ?_)
      exact rfl
     ·refine WP.condF rfl hc32<|WP.skip<|WP.g<|WL.m (int i_5) h6<|WL.w (R.add rfl rfl)<|WL.a (int (wr (i_5 + 1))) rfl<|WL.e ?_
      obtain rfl := oi hy9
      exact ⟨rfl, ⟨H15, h3, h4, rfl, Rp_a, Rp_b, S⟩⟩
    ·refine WP.condF rfl hc13<|WP.exit ?_
     obtain rfl := oi hy9
     obtain rfl := hy10
     exact ⟨H2, S⟩
  ·intro f w hM
   rcases r11 with _ | e
   ·obtain ⟨H7, S⟩ := hM
    refine WP.s<|WP.g<|WL.a (boo true) rfl<|WL.e ?_
    obtain rfl := oi h
    refine WP.ret (Out.one rfl S rfl ?_)
    exact rfl
   ·exact hM.elim
theorem ref26_SameFields_ok {w0 : World} {H0 : Hp} (hw : Holds w0 H0) (hG : Tryz.Gl w0) (p_a : (List GField)) (p_b : (List GField)) {vp_a : Value} {vp_b : Value} (Rp_a : Sl (α := GField) H0 vp_a p_a) (Rp_b : Sl (α := GField) H0 vp_b p_b) {r : Bool} (h : ref26_SameFields p_a p_b = some r) :
  Con Tryz.prog 25 [vp_a, vp_b] w0 H0 (fun H' v => v = (boo r)) := by
 refine Con.mk (N := 26) Tryz.func25 rfl rfl (by kernel_rfl) rfl ?_
 have S := St.start hw
 refine WP.s<|WP.g<|WL.a (boo false) rfl<|WL.e<|WP.s<|WP.s<|WP.g<|WL.m (vp_a) rfl<|WL.w (R.lenL (α := GField) (xs := p_a) (H := H0) Rp_a rfl Tryz.underlying24)<|WL.m (vp_b) rfl<|WL.w (R.lenL (α := GField) (xs := p_b) (H := H0) Rp_b rfl Tryz.underlying24)<|WL.w (R.neq rfl rfl) ?_
 refine WL.e ?_
 rcases condE h with ⟨hc1, h⟩ | ⟨hc1, h⟩
 ·refine WP.condT rfl hc1<|WP.s<|WP.g<|WL.a (boo false) rfl<|WL.e ?_
  obtain rfl := oi h
  refine WP.ret (Out.one rfl S rfl ?_)
  exact rfl
 ·refine WP.condF rfl hc1<|WP.skip<|WP.s<|WP.s<|WP.g<|WL.a (int 0) rfl<|WL.e ?_
  obtain ⟨r11, hr12, h⟩ := bindE h
  refine WP.cut (fun f w => match r11 with | .inl _ => ∃ (H7 : Hp), St w0 H0 w H7 [] | .inr _ => False) ?_ ?_
  ·refine WP.block ?_
   refine WP.loopM (ref26_SameFields_L0 p_a p_b) (fun s f w => match s with | i_5 => ∃ (H2 : Hp), f 0 = vp_a ∧ f 1 = vp_b ∧ f 5 = (int i_5) ∧ Sl (α := GField) H2 vp_a p_a ∧ Sl (α := GField) H2 vp_b p_b ∧ St w0 H0 w H2 []) 0 r11 hr12 ?_ ?_
   ·exact ⟨H0, rfl, rfl, rfl, Rp_a, Rp_b, S⟩
   ·intro i_5 f w hI y8 hy9 hy10
    obtain ⟨H2, h3, h4, h6, Rp_a, Rp_b, S⟩ := hI
    refine WP.s<|WP.s<|WP.g<|WL.m (int i_5) h6<|WL.m (vp_a) h3<|WL.w (R.lenL (α := GField) (xs := p_a) (H := H2) Rp_a rfl Tryz.underlying24)<|WL.w (R.lss rfl rfl)<|WL.e ?_
    rcases condE hy9 with ⟨hc13, hy9⟩ | ⟨hc13, hy9⟩
    ·refine WP.condT rfl hc13<|WP.skip<|WP.s<|WP.block<|WP.s<|WP.quiet S (by kernel_rfl) (by kernel_rfl)<|WQ.val (fun _ _ => (R.mv (v := vp_a) h3))<|WQ.val (fun _ _ => (R.mv (v := int i_5) h6)) ?_
     obtain ⟨x17, hx17, hy9⟩ := bindE hy9
     refine WQ.idx (α := GField) Rp_a rfl rfl el24 hx17 ?_
     rintro a18 _ hA19 rfl
     refine WQ.val (fun w hw => by obtain ⟨_, hq, S⟩ := hw; exact (R.loadHN (vs := [(str x17.fName), (str x17.fValue)]) S rfl (At.mono hA19 hq (by simp)) lay53 rfl rfl))<|WQ.val (fun _ _ => (R.mv (v := vp_b) h4))<|WQ.val (fun _ _ => (R.mv (v := int i_5) h6)) ?_
     obtain ⟨x20, hx20, hy9⟩ := bindE hy9
     refine WQ.idx (α := GField) Rp_b rfl rfl el24 hx20 ?_
     rintro a21 _ hA22 rfl
     refine WQ.val (fun w hw => by obtain ⟨_, hq, S⟩ := hw; exact (R.loadHN (vs := [(str x20.fName), (str x20.fValue)]) S rfl (At.mono hA22 hq (by simp)) lay53 rfl rfl))<|WQ.val (fun _ _ => (R.neqA (!((x17.fName == x20.fName) && ((x17.fValue == x20.fValue) && true))) rfl rfl ps53 fk53 rfl rfl rfl))<|WQ.nil ?_
     intro w14 H15 hle16 S
     have Rp_a := Sl.mono Rp_a hle16
     have Rp_b := Sl.mono Rp_b hle16
     rcases condE hy9 with ⟨hc23, hy9⟩ | ⟨hc23, hy9⟩
     ·refine WP.condT rfl hc23<|WP.s<|WP.g<|WL.a (boo false) rfl<|WL.e ?_
      obtain rfl := oi hy9
      obtain rfl := hy10
      obtain rfl := oi h
      refine WP.ret (Out.one rfl S rfl ?_)
      exact rfl
     ·refine WP.condF rfl hc23<|WP.skip<|WP.g<|WL.m (int i_5) h6<|WL.w (R.add rfl rfl)<|WL.a (int (wr (i_5 + 1))) rfl<|WL.e ?_
      obtain rfl := oi hy9
      exact ⟨rfl, ⟨H15, h3, h4, rfl, Rp_a, Rp_b, S⟩⟩
    ·refine WP.condF rfl hc13<|WP.exit ?_
     obtain rfl := oi hy9
     obtain rfl := hy10
     exact ⟨H2, S⟩
  ·intro f w hM
   rcases r11 with _ | e
   ·obtain ⟨H7, S⟩ := hM
    refine WP.s<|WP.g<|WL.a (boo true) rfl<|WL.e ?_
    obtain rfl := oi h
    refine WP.ret (Out.one rfl S rfl ?_)
    exact rfl
   ·exact hM.elim
theorem ref26_Equal_ok {w0 : World} {H0 : Hp} (hw : Holds w0 H0) (hG : Tryz.Gl w0) (p_a : GEntry) (p_b : GEntry) {vp_a0 : Value} {vp_a1 : Value} {vp_a2 : Value} {vp_a4 : Value} {vp_b0 : Value} {vp_b1 : Value} {vp_b2 : Value} {vp_b4 : Value} (Rp_a0 : Sl (α := (List Str)) H0 vp_a0 p_a.fKeys) (Rp_a1 : Sl (α := Str) H0 vp_a1 p_a.fVary) (Rp_a2 : Sl (α := Str) H0 vp_a2 p_a.fSnapshot) (Rp_a4 : Sl (α := GField) H0 vp_a4 p_a.fFields) (Rp_b0 : Sl (α := (List Str)) H0 vp_b0 p_b.fKeys) (Rp_b1 : Sl (α := Str) H0 vp_b1 p_b.fVary) (Rp_b2 : Sl (α := Str) H0 vp_b2 p_b.fSnapshot) (Rp_b4 : Sl (α := GField) H0 vp_b4 p_b.fFields) {r : Bool} (h : ref26_Equal p_a p_b = some r) :
  Con Tryz.prog 21 [(agg [vp_a0, vp_a1, vp_a2, (str p_a.fReason), vp_a4, (str p_a.fBody), (int p_a.fRequested), (int p_a.fReceived)]), (agg [vp_b0, vp_b1, vp_b2, (str p_b.fReason), vp_b4, (str p_b.fBody), (int p_b.fRequested), (int p_b.fReceived)])] w0 H0 (fun H' v => v = (boo r)) := by
 refine Con.mk (N := 59) Tryz.func21 rfl rfl (by kernel_rfl) rfl ?_
 have S := St.start hw
 refine WP.s<|WP.g<|W.box [vp_a0, vp_a1, vp_a2, (str p_a.fReason), vp_a4, (str p_a.fBody), (int p_a.fRequested), (int p_a.fReceived)] S rfl rfl ?_
 intro b1 w2 S
 refine W.box [vp_b0, vp_b1, vp_b2, (str p_b.fReason), vp_b4, (str p_b.fBody), (int p_b.fRequested), (int p_b.fReceived)] S rfl rfl ?_
 intro b3 w4 S
 refine WL.a (boo false) rfl<|WL.e<|WP.s<|WP.g<|WL.w (R.fieldB rfl fld26_0)<|WL.w (R.loadB (i := 1) (v := vp_a0) S rfl rfl lay22 rfl)<|WL.w (R.fieldB rfl fld26_0)<|WL.w (R.loadB (i := 0) (v := vp_b0) S rfl rfl lay22 rfl) ?_
 obtain ⟨r5, hr5, h⟩ := bindE h
 refine W.call S rfl (ref26_SameKeys_ok S.holds (hG.post S.post) p_a.fKeys p_b.fKeys Rp_a0 Rp_b0 hr5) ?_
 rintro v6 w7 H8 hle9 S rfl
 have Rp_a1 := Sl.mono Rp_a1 hle9
 have Rp_a2 := Sl.mono Rp_a2 hle9
 have Rp_a4 := Sl.mono Rp_a4 hle9
 have Rp_b1 := Sl.mono Rp_b1 hle9
 have Rp_b2 := Sl.mono Rp_b2 hle9
 have Rp_b4 := Sl.mono Rp_b4 hle9
 refine WL.m (boo r5) rfl ?_
 obtain ⟨b17, hg11, h⟩ := bindE h
 refine WL.grpw 6 [11, 12, 13, 14, 15] 16 (boo b17) (fun w => ∃ H' : Hp, H8.le H' ∧ St w0 H0 w H' [.box b3 26 [vp_b0, vp_b1, vp_b2, (str p_b.fReason), vp_b4, (str p_b.fBody), (int p_b.fRequested), (int p_b.fReceived)], .box b1 26 [vp_a0, vp_a1, vp_a2, (str p_a.fReason), vp_a4, (str p_a.fBody), (int p_a.fRequested), (int p_a.fReceived)]]) ?_ ?_
 ·rcases boolE r5 with hb10 | hb10
  ·replace hg11 := condT hg11 hb10
   refine WL.y rfl rfl hb10<|WL.w (R.fieldB rfl fld26_1)<|WL.y rfl rfl hb10<|WL.w (R.loadB (i := 1) (v := vp_a1) S rfl rfl lay23 rfl)<|WL.y rfl rfl hb10<|WL.w (R.fieldB rfl fld26_1)<|WL.y rfl rfl hb10<|WL.w (R.loadB (i := 0) (v := vp_b1) S rfl rfl lay23 rfl)<|WL.y rfl rfl hb10 ?_
   obtain ⟨r12, hr12, hg11⟩ := bindE hg11
   refine W.call S rfl (ref10_SameStrings_ok S.holds (hG.post S.post) p_a.fVary p_b.fVary Rp_a1 Rp_b1 hr12) ?_
   rintro v13 w14 H15 hle16 S rfl
   have Rp_a2 := Sl.mono Rp_a2 hle16
   have Rp_a4 := Sl.mono Rp_a4 hle16
   have Rp_b2 := Sl.mono Rp_b2 hle16
   have Rp_b4 := Sl.mono Rp_b4 hle16
   refine WL.w (R.pickT rfl hb10 rfl) ?_
   exact WL.e ⟨(congrArg boo (oi hg11)), ag, ⟨H15, hle16, S⟩⟩
  ·replace hg11 := condF hg11 hb10
   refine WL.n rfl rfl hb10<|WL.n rfl rfl hb10<|WL.n rfl rfl hb10<|WL.n rfl rfl hb10<|WL.n rfl rfl hb10<|WL.w (R.pickF rfl hb10 rfl) ?_
   exact WL.e ⟨(congrArg boo (oi hg11)), ag, ⟨H8, (Hp.le.refl _), S⟩⟩
 ·intro us w19 ⟨H18, hle20, S⟩
  have Rp_a2 := Sl.mono Rp_a2 hle20
  have Rp_a4 := Sl.mono Rp_a4 hle20
  have Rp_b2 := Sl.mono Rp_b2 hle20
  have Rp_b4 := Sl.mono Rp_b4 hle20
  refine WL.m (boo b17) rfl ?_
  obtain ⟨b28, hg22, h⟩ := bindE h
  refine WL.grpw 6 [18, 19, 20, 21, 22] 23 (boo b28) (fun w => ∃ H' : Hp, H18.le H' ∧ St w0 H0 w H' [.box b3 26 [vp_b0, vp_b1, vp_b2, (str p_b.fReason), vp_b4, (str p_b.fBody), (int p_b.fRequested), (int p_b.fReceived)], .box b1 26 [vp_a0, vp_a1, vp_a2, (str p_a.fReason), vp_a4, (str p_a.fBody), (int p_a.fRequested), (int p_a.fReceived)]]) ?_ ?_
  ·rcases boolE b17 with hb21 | hb21
   ·replace hg22 := condT hg22 hb21
    refine WL.y rfl rfl hb21<|WL.w (R.fieldB rfl fld26_2)<|WL.y rfl rfl hb21<|WL.w (R.loadB (i := 1) (v := vp_a2) S rfl rfl lay23 rfl)<|WL.y rfl rfl hb21<|WL.w (R.fieldB rfl fld26_2)<|WL.y rfl rfl hb21<|WL.w (R.loadB (i := 0) (v := vp_b2) S rfl rfl lay23 rfl)<|WL.y rfl rfl hb21 ?_
    obtain ⟨r23, hr23, hg22⟩ := bindE hg22
    refine W.call S rfl (ref10_SameStrings_ok S.holds (hG.post S.post) p_a.fSnapshot p_b.fSnapshot Rp_a2 Rp_b2 hr23) ?_
    rintro v24 w25 H26 hle27 S rfl
    have Rp_a4 := Sl.mono Rp_a4 hle27
    have Rp_b4 := Sl.mono Rp_b4 hle27
    refine WL.w (R.pickT rfl hb21 rfl) ?_
    exact WL.e ⟨(congrArg boo (oi hg22)), ag, ⟨H26, hle27, S⟩⟩
   ·replace hg22 := condF hg22 hb21
    refine WL.n rfl rfl hb21<|WL.n rfl rfl hb21<|WL.n rfl rfl hb21<|WL.n rfl rfl hb21<|WL.n rfl rfl hb21<|WL.w (R.pickF rfl hb21 rfl) ?_
    exact WL.e ⟨(congrArg boo (oi hg22)), ag, ⟨H18, (Hp.le.refl _), S⟩⟩
  ·intro us w30 ⟨H29, hle31, S⟩
   have Rp_a4 := Sl.mono Rp_a4 hle31
   have Rp_b4 := Sl.mono Rp_b4 hle31
   refine WL.m (boo b28) rfl ?_
   refine WL.grp 6 [25, 26, 27, 28, 29] 30 (boo (b28 && (p_a.fReason == p_b.fReason))) ?_ ?_
   ·rcases boolE b28 with hb32 | hb32
    ·refine WL.y rfl rfl hb32<|WL.w (R.fieldB rfl fld26_3)<|WL.y rfl rfl hb32<|WL.w (R.loadB (i := 1) (v := str p_a.fReason) S rfl rfl lay9 rfl)<|WL.y rfl rfl hb32<|WL.w (R.fieldB rfl fld26_3)<|WL.y rfl rfl hb32<|WL.w (R.loadB (i := 0) (v := str p_b.fReason) S rfl rfl lay9 rfl)<|WL.y rfl rfl hb32<|WL.w (R.eqlS (a := p_a.fReason) (b := p_b.fReason) rfl rfl)<|WL.w (R.pickT rfl hb32 rfl) ?_
     exact WL.e ⟨(andT hb32), ag, rfl⟩
    ·refine WL.n rfl rfl hb32<|WL.n rfl rfl hb32<|WL.n rfl rfl hb32<|WL.n rfl rfl hb32<|WL.n rfl rfl hb32<|WL.w (R.pickF rfl hb32 rfl) ?_
     exact WL.e ⟨(andF hb32), ag, rfl⟩
   ·intro us
    refine WL.m (boo (b28 && (p_a.fReason == p_b.fReason))) rfl ?_
    obtain ⟨b41, hg35, h⟩ := bindE h
    refine WL.grpw 6 [32, 33, 34, 35, 36] 37 (boo b41) (fun w => ∃ H' : Hp, H29.le H' ∧ St w0 H0 w H' [.box b3 26 [vp_b0, vp_b1, vp_b2, (str p_b.fReason), vp_b4, (str p_b.fBody), (int p_b.fRequested), (int p_b.fReceived)], .box b1 26 [vp_a0, vp_a1, vp_a2, (str p_a.fReason), vp_a4, (str p_a.fBody), (int p_a.fRequested), (int p_a.fReceived)]]) ?_ ?_
    ·rcases boolE (b28 && (p_a.fReason == p_b.fReason)) with hb34 | hb34
     ·replace hg35 := condT hg35 hb34
      refine WL.y rfl rfl hb34<|WL.w (R.fieldB rfl fld26_4)<|WL.y rfl rfl hb34<|WL.w (R.loadB (i := 1) (v := vp_a4) S rfl rfl lay24 rfl)<|WL.y rfl rfl hb34<|WL.w (R.fieldB rfl fld26_4)<|WL.y rfl rfl hb34<|WL.w (R.loadB (i := 0) (v := vp_b4) S rfl rfl lay24 rfl)<|WL.y rfl rfl hb34 ?_
      obtain ⟨r36, hr36, hg35⟩ := bindE hg35
      refine W.call S rfl (ref26_SameFields_ok S.holds (hG.post S.post) p_a.fFields p_b.fFields Rp_a4 Rp_b4 hr36) ?_
      rintro v37 w38 H39 hle40 S rfl
      refine WL.w (R.pickT rfl hb34 rfl) ?_
      exact WL.e ⟨(congrArg boo (oi hg35)), ag, ⟨H39, hle40, S⟩⟩
     ·replace hg35 := condF hg35 hb34
      refine WL.n rfl rfl hb34<|WL.n rfl rfl hb34<|WL.n rfl rfl hb34<|WL.n rfl rfl hb34<|WL.n rfl rfl hb34<|WL.w (R.pickF rfl hb34 rfl) ?_
      exact WL.e ⟨(congrArg boo (oi hg35)), ag, ⟨H29, (Hp.le.refl _), S⟩⟩
    ·intro us w43 ⟨H42, hle44, S⟩
     refine WL.m (boo b41) rfl ?_
     refine WL.grp 6 [39, 40, 41, 42, 43] 44 (boo (b41 && (p_a.fBody == p_b.fBody))) ?_ ?_
     ·rcases boolE b41 with hb45 | hb45
      ·refine WL.y rfl rfl hb45<|WL.w (R.fieldB rfl fld26_5)<|WL.y rfl rfl hb45<|WL.w (R.loadB (i := 1) (v := str p_a.fBody) S rfl rfl lay9 rfl)<|WL.y rfl rfl hb45<|WL.w (R.fieldB rfl fld26_5)<|WL.y rfl rfl hb45<|WL.w (R.loadB (i := 0) (v := str p_b.fBody) S rfl rfl lay9 rfl)<|WL.y rfl rfl hb45<|WL.w (R.eqlS (a := p_a.fBody) (b := p_b.fBody) rfl rfl)<|WL.w (R.pickT rfl hb45 rfl) ?_
       exact WL.e ⟨(andT hb45), ag, rfl⟩
      ·refine WL.n rfl rfl hb45<|WL.n rfl rfl hb45<|WL.n rfl rfl hb45<|WL.n rfl rfl hb45<|WL.n rfl rfl hb45<|WL.w (R.pickF rfl hb45 rfl) ?_
       exact WL.e ⟨(andF hb45), ag, rfl⟩
     ·intro us
      refine WL.m (boo (b41 && (p_a.fBody == p_b.fBody))) rfl ?_
      refine WL.grp 6 [46, 47, 48, 49, 50] 51 (boo ((b41 && (p_a.fBody == p_b.fBody)) && (p_a.fRequested == p_b.fRequested))) ?_ ?_
      ·rcases boolE (b41 && (p_a.fBody == p_b.fBody)) with hb47 | hb47
       ·refine WL.y rfl rfl hb47<|WL.w (R.fieldB rfl fld26_6)<|WL.y rfl rfl hb47<|WL.w (R.loadB (i := 1) (v := int p_a.fRequested) S rfl rfl lay2 rfl)<|WL.y rfl rfl hb47<|WL.w (R.fieldB rfl fld26_6)<|WL.y rfl rfl hb47<|WL.w (R.loadB (i := 0) (v := int p_b.fRequested) S rfl rfl lay2 rfl)<|WL.y rfl rfl hb47<|WL.w (R.eql rfl rfl)<|WL.w (R.pickT rfl hb47 rfl) ?_
        exact WL.e ⟨(andT hb47), ag, rfl⟩
       ·refine WL.n rfl rfl hb47<|WL.n rfl rfl hb47<|WL.n rfl rfl hb47<|WL.n rfl rfl hb47<|WL.n rfl rfl hb47<|WL.w (R.pickF rfl hb47 rfl) ?_
        exact WL.e ⟨(andF hb47), ag, rfl⟩
      ·intro us
       refine WL.m (boo ((b41 && (p_a.fBody == p_b.fBody)) && (p_a.fRequested == p_b.fRequested))) rfl ?_
       refine WL.grp 6 [53, 54, 55, 56, 57] 58 (boo (((b41 && (p_a.fBody == p_b.fBody)) && (p_a.fRequested == p_b.fRequested)) && (p_a.fReceived == p_b.fReceived))) ?_ ?_
       ·rcases boolE ((b41 && (p_a.fBody == p_b.fBody)) && (p_a.fRequested == p_b.fRequested)) with hb49 | hb49
        ·refine WL.y rfl rfl hb49<|WL.w (R.fieldB rfl fld26_7)<|WL.y rfl rfl hb49<|WL.w (R.loadB (i := 1) (v := int p_a.fReceived) S rfl rfl lay2 rfl)<|WL.y rfl rfl hb49<|WL.w (R.fieldB rfl fld26_7)<|WL.y rfl rfl hb49<|WL.w (R.loadB (i := 0) (v := int p_b.fReceived) S rfl rfl lay2 rfl)<|WL.y rfl rfl hb49<|WL.w (R.eql rfl rfl)<|WL.w (R.pickT rfl hb49 rfl) ?_
         exact WL.e ⟨(andT hb49), ag, rfl⟩
        ·refine WL.n rfl rfl hb49<|WL.n rfl rfl hb49<|WL.n rfl rfl hb49<|WL.n rfl rfl hb49<|WL.n rfl rfl hb49<|WL.w (R.pickF rfl hb49 rfl) ?_
         exact WL.e ⟨(andF hb49), ag, rfl⟩
       ·intro us
        refine WL.a (boo (((b41 && (p_a.fBody == p_b.fBody)) && (p_a.fRequested == p_b.fRequested)) && (p_a.fReceived == p_b.fReceived))) rfl<|WL.e ?_
        obtain rfl := oi h
        refine WP.ret (Out.one rfl S rfl ?_)
        exact rfl
theorem ref10_Equal_ok {w0 : World} {H0 : Hp} (hw : Holds w0 H0) (hG : Tryz.Gl w0) (p_a : (List GAxis)) (p_b : (List GAxis)) {vp_a : Value} {vp_b : Value} (Rp_a : Sl (α := GAxis) H0 vp_a p_a) (Rp_b : Sl (α := GAxis) H0 vp_b p_b) {r : Bool} (h : ref10_Equal p_a p_b = some r) :
  Con Tryz.prog 22 [vp_a, vp_b] w0 H0 (fun H' v => v = (boo r)) := by
 refine Con.mk (N := 42) Tryz.func22 rfl rfl (by kernel_rfl) rfl ?_
 have S := St.start hw
 refine WP.s<|WP.g<|WL.a (boo false) rfl<|WL.e<|WP.s<|WP.s<|WP.g<|WL.m (vp_a) rfl<|WL.w (R.lenL (α := GAxis) (xs := p_a) (H := H0) Rp_a rfl Tryz.underlying43)<|WL.m (vp_b) rfl<|WL.w (R.lenL (α := GAxis) (xs := p_b) (H := H0) Rp_b rfl Tryz.underlying43)<|WL.w (R.neq rfl rfl) ?_
 refine WL.e ?_
 rcases condE h with ⟨hc1, h⟩ | ⟨hc1, h⟩
 ·refine WP.condT rfl hc1<|WP.s<|WP.g<|WL.a (boo false) rfl<|WL.e ?_
  obtain rfl := oi h
  refine WP.ret (Out.one rfl S rfl ?_)
  exact rfl
 ·refine WP.condF rfl hc1<|WP.skip<|WP.s<|WP.s<|WP.g<|WL.a (int 0) rfl<|WL.e ?_
  obtain ⟨r11, hr12, h⟩ := bindE h
  refine WP.cut (fun f w => match r11 with | .inl _ => ∃ (H7 : Hp), St w0 H0 w H7 [] | .inr _ => False) ?_ ?_
  ·refine WP.block ?_
   refine WP.loopM (ref10_Equal_L0 p_a p_b) (fun s f w => match s with | i_5 => ∃ (H2 : Hp), f 0 = vp_a ∧ f 1 = vp_b ∧ f 5 = (int i_5) ∧ Sl (α := GAxis) H2 vp_a p_a ∧ Sl (α := GAxis) H2 vp_b p_b ∧ St w0 H0 w H2 []) 0 r11 hr12 ?_ ?_
   ·exact ⟨H0, rfl, rfl, rfl, Rp_a, Rp_b, S⟩
   ·intro i_5 f w hI y8 hy9 hy10
    obtain ⟨H2, h3, h4, h6, Rp_a, Rp_b, S⟩ := hI
    refine WP.s<|WP.s<|WP.g<|WL.m (int i_5) h6<|WL.m (vp_a) h3<|WL.w (R.lenL (α := GAxis) (xs := p_a) (H := H2) Rp_a rfl Tryz.underlying43)<|WL.w (R.lss rfl rfl)<|WL.e ?_
    rcases condE hy9 with ⟨hc13, hy9⟩ | ⟨hc13, hy9⟩
    ·refine WP.condT rfl hc13<|WP.skip<|WP.s<|WP.block<|WP.s<|WP.quiet S (by kernel_rfl) (by kernel_rfl)<|WQ.val (fun _ _ => (R.mv (v := vp_a) h3))<|WQ.val (fun _ _ => (R.mv (v := int i_5) h6)) ?_
     obtain ⟨x17, hx17, hy9⟩ := bindE hy9
     refine WQ.idx (α := GAxis) Rp_a rfl rfl el43 hx17 ?_
     rintro a18 _ hA19 ⟨v20, rfl, R21⟩
     refine WQ.val (fun _ _ => (R.field rfl fld84_0)) ?_
     have hA22 := At.add hA19 0 (by simp)
     refine WQ.val (fun w hw => by obtain ⟨_, hq, S⟩ := hw; exact (R.loadH (v := str x17.fName) S rfl (At.mono hA22 hq (by simp)) lay9 rfl))<|WQ.val (fun _ _ => (R.mv (v := vp_b) h4))<|WQ.val (fun _ _ => (R.mv (v := int i_5) h6)) ?_
     obtain ⟨x23, hx23, hy9⟩ := bindE hy9
     refine WQ.idx (α := GAxis) Rp_b rfl rfl el43 hx23 ?_
     rintro a24 _ hA25 ⟨v26, rfl, R27⟩
     refine WQ.val (fun _ _ => (R.field rfl fld84_0)) ?_
     have hA28 := At.add hA25 0 (by simp)
     refine WQ.val (fun w hw => by obtain ⟨_, hq, S⟩ := hw; exact (R.loadH (v := str x23.fName) S rfl (At.mono hA28 hq (by simp)) lay9 rfl))<|WQ.val (fun _ _ => (R.neqS (a := x17.fName) (b := x23.fName) rfl rfl))<|WQ.val (fun _ _ => (R.mv (v := boo (x17.fName != x23.fName)) rfl)) ?_
     obtain ⟨b48, hg30, hy9⟩ := bindE hy9
     refine WQ.grp 13 [29, 30, 31, 32, 33, 34, 35, 36, 37, 38, 39, 40] 41 (boo b48) ?_ ?_
     ·rcases boolE (x17.fName != x23.fName) with hb29 | hb29
      ·replace hg30 := condT hg30 hb29
       refine WQ.gno rfl rfl hb29<|WQ.gno rfl rfl hb29<|WQ.gno rfl rfl hb29<|WQ.gno rfl rfl hb29<|WQ.gno rfl rfl hb29<|WQ.gno rfl rfl hb29<|WQ.gno rfl rfl hb29<|WQ.gno rfl rfl hb29<|WQ.gno rfl rfl hb29<|WQ.gno rfl rfl hb29<|WQ.gno rfl rfl hb29<|WQ.gno rfl rfl hb29 ?_
       refine WQ.val (fun _ _ => (R.pickT rfl hb29 rfl)) ?_
       exact WQ.nil ⟨(congrArg boo (oi hg30)), ag⟩
      ·replace hg30 := condF hg30 hb29
       refine WQ.gyes rfl rfl hb29<|WQ.val (fun _ _ => (R.mv (v := vp_a) h3))<|WQ.gyes rfl rfl hb29<|WQ.val (fun _ _ => (R.mv (v := int i_5) h6))<|WQ.gyes rfl rfl hb29 ?_
       obtain ⟨x31, hx31, hg30⟩ := bindE hg30
       refine WQ.idx (α := GAxis) Rp_a rfl rfl el43 hx31 ?_
       rintro a32 _ hA33 ⟨v34, rfl, R35⟩
       refine WQ.gyes rfl rfl hb29<|WQ.val (fun _ _ => (R.field rfl fld84_1)) ?_
       have hA36 := At.add hA33 1 (by simp)
       refine WQ.gyes rfl rfl hb29<|WQ.val (fun w hw => by obtain ⟨_, hq, S⟩ := hw; exact (R.loadH (v := v34) S rfl (At.mono hA36 hq (by simp)) lay23 rfl))<|WQ.gyes rfl rfl hb29<|WQ.val (fun _ _ => (R.mv (v := vp_b) h4))<|WQ.gyes rfl rfl hb29<|WQ.val (fun _ _ => (R.mv (v := int i_5) h6))<|WQ.gyes rfl rfl hb29 ?_
       obtain ⟨x37, hx37, hg30⟩ := bindE hg30
       refine WQ.idx (α := GAxis) Rp_b rfl rfl el43 hx37 ?_
       rintro a38 _ hA39 ⟨v40, rfl, R41⟩
       refine WQ.gyes rfl rfl hb29<|WQ.val (fun _ _ => (R.field rfl fld84_1)) ?_
       have hA42 := At.add hA39 1 (by simp)
       refine WQ.gyes rfl rfl hb29<|WQ.val (fun w hw => by obtain ⟨_, hq, S⟩ := hw; exact (R.loadH (v := v40) S rfl (At.mono hA42 hq (by simp)) lay23 rfl))<|WQ.gyes rfl rfl hb29 ?_
       obtain ⟨r43, hr43, hg30⟩ := bindE hg30
       refine WQ.call (v := boo r43) rfl (fun w H' hq S => ref10_SameStrings_ok S.holds (hG.post S.post) x31.fValues x37.fValues (Sl.mono R35 hq) (Sl.mono R41 hq) hr43)<|WQ.gyes rfl rfl hb29<|WQ.val (fun _ _ => (R.not rfl))<|WQ.val (fun _ _ => (R.pickF rfl hb29 rfl)) ?_
       exact WQ.nil ⟨(congrArg boo (oi hg30)), ag⟩
     ·intro us
      refine WQ.nil ?_
      intro w14 H15 hle16 S
      have Rp_a := Sl.mono Rp_a hle16
      have Rp_b := Sl.mono Rp_b hle16
      rcases condE hy9 with ⟨hc49, hy9⟩ | ⟨hc49, hy9⟩
      ·refine WP.condT rfl hc49<|WP.s<|WP.g<|WL.a (boo false) rfl<|WL.e ?_
       obtain rfl := oi hy9
       obtain rfl := hy10
       obtain rfl := oi h
       refine WP.ret (Out.one rfl S rfl ?_)
       exact rfl
      ·refine WP.condF rfl hc49<|WP.skip<|WP.g<|WL.m (int i_5) h6<|WL.w (R.add rfl rfl)<|WL.a (int (wr (i_5 + 1))) rfl<|WL.e ?_
       obtain rfl := oi hy9
       exact ⟨rfl, ⟨H15, h3, h4, rfl, Rp_a, Rp_b, S⟩⟩
    ·refine WP.condF rfl hc13<|WP.exit ?_
     obtain rfl := oi hy9
     obtain rfl := hy10
     exact ⟨H2, S⟩
  ·intro f w hM
   rcases r11 with _ | e
   ·obtain ⟨H7, S⟩ := hM
    refine WP.s<|WP.g<|WL.a (boo true) rfl<|WL.e ?_
    obtain rfl := oi h
    refine WP.ret (Out.one rfl S rfl ?_)
    exact rfl
   ·exact hM.elim
theorem fieldline_First_ok {w0 : World} {H0 : Hp} (hw : Holds w0 H0) (hG : Tryz.Gl w0) (p_l : (List GField)) (p_name : Str) {vp_l : Value} (Rp_l : Sl (α := GField) H0 vp_l p_l) {r : (Str × Bool)} (h : fieldline_First p_l p_name = some r) :
  Con Tryz.prog 110 [vp_l, (str p_name)] w0 H0 (fun H' v => v = (.tuple ⟨[(str r.1), (boo r.2)]⟩)) := by
 refine Con.mk (N := 16) Tryz.func110 rfl rfl (by kernel_rfl) rfl ?_
 have S := St.start hw
 refine WP.s<|WP.g<|WL.a (str []) rfl<|WL.a (boo false) rfl<|WL.e<|WP.s<|WP.g<|WL.m (vp_l) rfl<|WL.m (str p_name) rfl ?_
 obtain ⟨r1, hr1, h⟩ := bindE h
 refine W.call S rfl (fieldline_Get_ok S.holds (hG.post S.post) p_l p_name Rp_l hr1) ?_
 rintro v2 w3 H4 hle5 S R6
 refine WL.a (v2) rfl<|WL.e<|WP.s<|WP.s<|WP.g<|WL.m (v2) rfl<|WL.w (R.lenL (α := Str) (xs := r1) (H := H4) R6 rfl Tryz.underlying23)<|WL.w (R.eql rfl rfl)<|WL.e ?_
 rcases condE h with ⟨hc7, h⟩ | ⟨hc7, h⟩
 ·refine WP.condT rfl hc7<|WP.s<|WP.g<|WL.a (str []) rfl<|WL.a (boo false) rfl<|WL.e ?_
  obtain rfl := oi h
  refine WP.ret (Out.two rfl S rfl rfl ?_)
  exact rfl
 ·refine WP.condF rfl hc7<|WP.skip<|WP.s<|WP.g<|WL.m (v2) rfl ?_
  obtain ⟨x8, hx8, h⟩ := bindE h
  refine W.idx (α := Str) R6 rfl rfl el23 hx8 ?_
  rintro a9 _ hA10 rfl
  refine WL.w (R.loadH (v := str x8) S rfl hA10 lay9 rfl)<|WL.a (str x8) rfl<|WL.a (boo true) rfl<|WL.e ?_
  obtain rfl := oi h
  refine WP.ret (Out.two rfl S rfl rfl ?_)
  exact rfl
theorem ascii_Number_ok {w0 : World} {H0 : Hp} (hw : Holds w0 H0) (hG : Tryz.Gl w0) (p_s : Str) {r : (Int × Bool)} (h : ascii_Number p_s = some r) :
  Con Tryz.prog 111 [(str p_s)] w0 H0 (fun H' v => v = (.tuple ⟨[(int r.1), (boo r.2)]⟩)) := by
 refine Con.mk (N := 34) Tryz.func111 rfl rfl (by kernel_rfl) rfl ?_
 have S := St.start hw
 refine WP.s<|WP.g<|WL.a (int 0) rfl<|WL.a (boo false) rfl<|WL.e<|WP.s<|WP.g<|WL.a (int 0) rfl<|WL.e<|WP.s<|WP.s<|WP.g ?_
 refine WL.m (str p_s) rfl<|WL.w (R.lenS (a := p_s) rfl Tryz.underlying9)<|WL.m (int 0) rfl<|WL.e ?_
 obtain ⟨r15, hr16, h⟩ := bindE h
 refine WP.cut (fun f w => match r15 with | .inl n_10 => ∃ (H8 : Hp), f 0 = (str p_s) ∧ f 4 = (int n_10) ∧ St w0 H0 w H8 [] | .inr _ => False) ?_ ?_
 ·refine WP.block ?_
  refine WP.loopM (ascii_Number_L0 p_s) (fun s f w => match s with | (n_3, y_6) => ∃ (H1 : Hp), f 0 = (str p_s) ∧ f 4 = (int n_3) ∧ f 7 = (int (p_s.length : Int)) ∧ f 8 = (int y_6) ∧ St w0 H0 w H1 []) (0, 0) r15 hr16 ?_ ?_
  ·exact ⟨H0, rfl, rfl, rfl, rfl, S⟩
  ·intro s f w hI y12 hy13 hy14
   obtain ⟨n_3, y_6⟩ := s
   obtain ⟨H1, h2, h4, h5, h7, S⟩ := hI
   refine WP.s<|WP.g<|WL.w (R.lss h7 h5)<|WL.e<|WP.s ?_
   rcases condE hy13 with ⟨hc17, hy13⟩ | ⟨hc17, hy13⟩
   ·refine WP.condT rfl hc17<|WP.skip<|WP.s<|WP.block<|WP.s<|WP.g<|WL.m (int y_6) h7<|WL.a (int y_6) rfl<|WL.e<|WP.s<|WP.s<|WP.g ?_
    refine WL.m (str p_s) h2<|WL.m (int y_6) rfl ?_
    obtain ⟨c18, hc18, hy13⟩ := bindE hy13
    refine WL.w (R.idxS rfl rfl Tryz.underlying9 hc18)<|WL.w (R.lss8 (a := c18) (b := 48) rfl rfl)<|WL.m (boo (decide (c18 < 48))) rfl ?_
    obtain ⟨b22, hg20, hy13⟩ := bindE hy13
    refine WL.grp 5 [16, 17, 18, 19] 20 (boo b22) ?_ ?_
    ·rcases boolE (decide (c18 < 48)) with hb19 | hb19
     ·replace hg20 := condT hg20 hb19
      refine WL.n rfl rfl hb19<|WL.n rfl rfl hb19<|WL.n rfl rfl hb19<|WL.n rfl rfl hb19<|WL.w (R.pickT rfl hb19 rfl) ?_
      exact WL.e ⟨(congrArg boo (oi hg20)), ag, rfl⟩
     ·replace hg20 := condF hg20 hb19
      refine WL.y rfl rfl hb19<|WL.m (str p_s) h2<|WL.y rfl rfl hb19<|WL.m (int y_6) rfl<|WL.y rfl rfl hb19 ?_
      obtain ⟨c21, hc21, hg20⟩ := bindE hg20
      refine WL.w (R.idxS rfl rfl Tryz.underlying9 hc21)<|WL.y rfl rfl hb19<|WL.w (R.gtr8 (a := c21) (b := 57) rfl rfl)<|WL.w (R.pickF rfl hb19 rfl) ?_
      exact WL.e ⟨(congrArg boo (oi hg20)), ag, rfl⟩
    ·intro us
     refine WL.e ?_
     rcases condE hy13 with ⟨hc23, hy13⟩ | ⟨hc23, hy13⟩
     ·refine WP.condT rfl hc23<|WP.s<|WP.g<|WL.a (int 0) rfl<|WL.a (boo false) rfl<|WL.e ?_
      obtain rfl := oi hy13
      obtain rfl := hy14
      obtain rfl := oi h
      refine WP.ret (Out.two rfl S rfl rfl ?_)
      exact rfl
     ·refine WP.condF rfl hc23<|WP.skip<|WP.g<|WL.m (int n_3) h4<|WL.w (R.mul rfl rfl)<|WL.m (str p_s) h2<|WL.m (int y_6) rfl ?_
      obtain ⟨c24, hc24, hy13⟩ := bindE hy13
      refine WL.w (R.idxS rfl rfl Tryz.underlying9 hc24)<|WL.w (R.sub8 (a := c24) (b := 48) rfl rfl)<|WL.w (R.i64of8 (a := c24 - 48) rfl Tryz.underlying5 Tryz.underlying2)<|WL.w (R.add rfl rfl)<|WL.w (R.min rfl rfl)<|WL.a (int (if 2147483647 < (wr ((wr (10 * n_3)) + ((c24 - 48).toNat : Int))) then 2147483647 else (wr ((wr (10 * n_3)) + ((c24 - 48).toNat : Int))))) rfl<|WL.e<|WP.g<|WL.w (R.add h7 rfl)<|WL.m (int (wr (y_6 + 1))) rfl<|WL.e ?_
      obtain rfl := oi hy13
      exact ⟨rfl, ⟨H1, h2, rfl, h5, rfl, S⟩⟩
   ·refine WP.condF rfl hc17<|WP.exit ?_
    obtain rfl := oi hy13
    obtain rfl := hy14
    exact ⟨H1, h2, h4, S⟩
 ·intro f w hM
  rcases r15 with n_10 | e
  ·obtain ⟨H8, h9, h11, S⟩ := hM
   refine WP.s<|WP.g<|WL.m (int n_10) h11<|WL.m (str p_s) h9<|WL.w (R.neqS (a := p_s) (b := []) rfl rfl)<|WL.a (int n_10) rfl<|WL.a (boo (p_s != [])) rfl<|WL.e ?_
   obtain rfl := oi h
   refine WP.ret (Out.two rfl S rfl rfl ?_)
   exact rfl
  ·exact hM.elim
theorem date_index_ok {w0 : World} {H0 : Hp} (hw : Holds w0 H0) (hG : Tryz.Gl w0) (p_n : Int) (p_name : (Int → Option Str)) (p_s : Str) {kp_name : FuncId} {cp_name : List Value} (Fp_name : ∀ {w : World} {H : Hp}, H0.le H → Holds w H → Tryz.Gl w → ∀ (x0 : Int) (rr : Str), p_name x0 = some rr → Con Tryz.prog kp_name ([(int x0)] ++ cp_name) w H (fun H' v => v = (str rr))) {r : Int} (h : date_index p_n p_name p_s = some r) :
  Con Tryz.prog 223 [(int p_n), (.func (.func kp_name) #[] cp_name.toArray), (str p_s)] w0 H0 (fun H' v => v = (int r)) := by
 refine Con.mk (N := 19) Tryz.func223 rfl rfl (by kernel_rfl) rfl ?_
 have S := St.start hw
 refine WP.s<|WP.g<|WL.a (int 0) rfl<|WL.e<|WP.s<|WP.s<|WP.g<|WL.m (int p_n) rfl<|WL.m (int 0) rfl<|WL.e ?_
 obtain ⟨r11, hr12, h⟩ := bindE h
 refine WP.cut (fun f w => match r11 with | .inl _ => ∃ (H7 : Hp), St w0 H0 w H7 [] | .inr _ => False) ?_ ?_
 ·refine WP.block ?_
  refine WP.loopM (date_index_L0 p_n p_name p_s) (fun s f w => match s with | y_5 => ∃ (H1 : Hp), f 1 = (.func (.func kp_name) #[] cp_name.toArray) ∧ f 2 = (str p_s) ∧ f 8 = (int p_n) ∧ f 9 = (int y_5) ∧ St w0 H0 w H1 []) 0 r11 hr12 ?_ ?_
  ·exact ⟨H0, rfl, rfl, rfl, rfl, S⟩
  ·intro y_5 f w hI y8 hy9 hy10
   obtain ⟨H1, h2, h3, h4, h6, S⟩ := hI
   refine WP.s<|WP.g<|WL.w (R.lss h6 h4)<|WL.e<|WP.s ?_
   rcases condE hy9 with ⟨hc13, hy9⟩ | ⟨hc13, hy9⟩
   ·refine WP.condT rfl hc13<|WP.skip<|WP.s<|WP.block<|WP.s<|WP.g<|WL.m (int y_5) h6<|WL.a (int y_5) rfl<|WL.e<|WP.s<|WP.g<|WL.m (.func (.func kp_name) #[] cp_name.toArray) h2 ?_
    refine WL.m (int y_5) rfl ?_
    obtain ⟨r14, hr14, hy9⟩ := bindE hy9
    refine W.callv S rfl rfl (Fp_name (S.post.le) S.holds (hG.post S.post) y_5 _ hr14) ?_
    rintro v15 w16 H17 hle18 S rfl
    refine WL.m (str p_s) h3<|WL.w (R.eqlS (a := r14) (b := p_s) rfl rfl)<|WL.e ?_
    rcases condE hy9 with ⟨hc19, hy9⟩ | ⟨hc19, hy9⟩
    ·refine WP.condT rfl hc19<|WP.s<|WP.g<|WL.m (int y_5) rfl<|WL.a (int y_5) rfl<|WL.e ?_
     obtain rfl := oi hy9
     obtain rfl := hy10
     obtain rfl := oi h
     refine WP.ret (Out.one rfl S rfl ?_)
     exact rfl
    ·refine WP.condF rfl hc19<|WP.skip<|WP.g<|WL.w (R.add h6 rfl)<|WL.m (int (wr (y_5 + 1))) rfl<|WL.e ?_
     obtain rfl := oi hy9
     exact ⟨rfl, ⟨H17, h2, h3, h4, rfl, S⟩⟩
   ·refine WP.condF rfl hc13<|WP.exit ?_
    obtain rfl := oi hy9
    obtain rfl := hy10
    exact ⟨H1, S⟩
 ·intro f w hM
  rcases r11 with _ | e
  ·obtain ⟨H7, S⟩ := hM
   refine WP.s<|WP.g<|WL.a (int (-1)) rfl<|WL.e ?_
   obtain rfl := oi h
   refine WP.ret (Out.one rfl S rfl ?_)
   exact rfl
  ·exact hM.elim
theorem date_monthName_ok {w0 : World} {H0 : Hp} (hw : Holds w0 H0) (hG : Tryz.Gl w0) (p_i : Int) {r : Str} (h : date_monthName p_i = some r) :
  Con Tryz.prog 224 [(int p_i)] w0 H0 (fun H' v => v = (str r)) := by
 refine Con.mk (N := 6) Tryz.func224 rfl rfl (by kernel_rfl) rfl ?_
 have S := St.start hw
 refine WP.s<|WP.g<|WL.a (str []) rfl<|WL.e<|WP.s<|WP.g<|WL.w (R.buildArr [(0, (str [74, 97, 110])), (1, (str [70, 101, 98])), (2, (str [77, 97, 114])), (3, (str [65, 112, 114])), (4, (str [77, 97, 121])), (5, (str [74, 117, 110])), (6, (str [74, 117, 108])), (7, (str [65, 117, 103])), (8, (str [83, 101, 112])), (9, (str [79, 99, 116])), (10, (str [78, 111, 118])), (11, (str [68, 101, 99]))] [(str [74, 97, 110]), (str [70, 101, 98]), (str [77, 97, 114]), (str [65, 112, 114]), (str [77, 97, 121]), (str [74, 117, 110]), (str [74, 117, 108]), (str [65, 117, 103]), (str [83, 101, 112]), (str [79, 99, 116]), (str [78, 111, 118]), (str [68, 101, 99])] Tryz.underlying242 lay9 zer242 rfl rfl)<|WL.m (int p_i) rfl ?_
 obtain ⟨s1, hs1, h⟩ := bindE h
 refine WL.w (R.idxA str (l := ([[74, 97, 110], [70, 101, 98], [77, 97, 114], [65, 112, 114], [77, 97, 121], [74, 117, 110], [74, 117, 108], [65, 117, 103], [83, 101, 112], [79, 99, 116], [78, 111, 118], [68, 101, 99]] : List Str)) rfl rfl Tryz.underlying242 lay9 rfl hs1)<|WL.a (str s1) rfl<|WL.e ?_
 obtain rfl := oi h
 refine WP.ret (Out.one rfl S rfl ?_)
 exact rfl
theorem date_leap_ok {w0 : World} {H0 : Hp} (hw : Holds w0 H0) (hG : Tryz.Gl w0) (p_year : Int) {r : Bool} (h : date_leap p_year = some r) :
  Con Tryz.prog 251 [(int p_year)] w0 H0 (fun H' v => v = (boo r)) := by
 refine Con.mk (N := 16) Tryz.func251 rfl rfl (by kernel_rfl) rfl ?_
 have S := St.start hw
 refine WP.s<|WP.g<|WL.a (boo false) rfl<|WL.e<|WP.s<|WP.g<|WL.m (int p_year) rfl ?_
 obtain ⟨n1, hn1, h⟩ := bindE h
 refine WL.w (R.rem' rfl rfl hn1)<|WL.w (R.eql rfl rfl)<|WL.m (boo (n1 == 0)) rfl ?_
 obtain ⟨b9, hg3, h⟩ := bindE h
 refine WL.grp 9 [7, 8, 9, 10, 11, 12, 13, 14] 15 (boo b9) ?_ ?_
 ·rcases boolE (n1 == 0) with hb2 | hb2
  ·replace hg3 := condT hg3 hb2
   refine WL.y rfl rfl hb2<|WL.m (int p_year) rfl<|WL.y rfl rfl hb2 ?_
   obtain ⟨n4, hn4, hg3⟩ := bindE hg3
   refine WL.w (R.rem' rfl rfl hn4)<|WL.y rfl rfl hb2<|WL.w (R.neq rfl rfl)<|WL.y rfl rfl hb2<|WL.m (boo (n4 != 0)) rfl ?_
   obtain ⟨b8, hg6, hg3⟩ := bindE hg3
   refine WL.grp 4 [11, 12, 13] 14 (boo b8) ?_ ?_
   ·rcases boolE (n4 != 0) with hb5 | hb5
    ·replace hg6 := condT hg6 hb5
     refine WL.n rfl rfl hb5<|WL.n rfl rfl hb5<|WL.n rfl rfl hb5<|WL.y rfl rfl hb2<|WL.w (R.pickT rfl hb5 rfl) ?_
     exact WL.e ⟨(congrArg boo (oi hg6)), ag, rfl⟩
    ·replace hg6 := condF hg6 hb5
     refine WL.y rfl rfl hb5<|WL.m (int p_year) rfl<|WL.y rfl rfl hb5 ?_
     obtain ⟨n7, hn7, hg6⟩ := bindE hg6
     refine WL.w (R.rem' rfl rfl hn7)<|WL.y rfl rfl hb5<|WL.w (R.eql rfl rfl)<|WL.y rfl rfl hb2<|WL.w (R.pickF rfl hb5 rfl) ?_
     exact WL.e ⟨(congrArg boo (oi hg6)), ag, rfl⟩
   ·intro us
    refine WL.w (R.pickT rfl hb2 rfl) ?_
    exact WL.e ⟨(congrArg boo (oi hg3)), ag, rfl⟩
  ·replace hg3 := condF hg3 hb2
   refine WL.n rfl rfl hb2<|WL.n rfl rfl hb2<|WL.n rfl rfl hb2<|WL.n rfl rfl hb2<|WL.gund rfl rfl<|WL.gund rfl rfl<|WL.gund rfl rfl<|WL.n rfl rfl hb2<|WL.w (R.pickF rfl hb2 rfl) ?_
   exact WL.e ⟨(congrArg boo (oi hg3)), ag, rfl⟩
 ·intro us
  refine WL.a (boo b9) rfl<|WL.e ?_
  obtain rfl := oi h
  refine WP.ret (Out.one rfl S rfl ?_)
  exact rfl
theorem date_length_ok {w0 : World} {H0 : Hp} (hw : Holds w0 H0) (hG : Tryz.Gl w0) (p_year : Int) (p_month : Int) {r : Int} (h : date_length p_year p_month = some r) :
  Con Tryz.prog 244 [(int p_year), (int p_month)] w0 H0 (fun H' v => v = (int r)) := by
 refine Con.mk (N := 15) Tryz.func244 rfl rfl (by kernel_rfl) rfl ?_
 have S := St.start hw
 refine WP.s<|WP.g<|WL.a (int 0) rfl<|WL.e<|WP.s<|WP.s<|WP.g<|WL.m (int p_month) rfl<|WL.w (R.eql rfl rfl)<|WL.m (boo (p_month == 2)) rfl ?_
 obtain ⟨b8, hg2, h⟩ := bindE h
 refine WL.grpw 3 [8, 9] 10 (boo b8) (fun w => ∃ H' : Hp, H0.le H' ∧ St w0 H0 w H' []) ?_ ?_
 ·rcases boolE (p_month == 2) with hb1 | hb1
  ·replace hg2 := condT hg2 hb1
   refine WL.y rfl rfl hb1<|WL.m (int p_year) rfl<|WL.y rfl rfl hb1 ?_
   obtain ⟨r3, hr3, hg2⟩ := bindE hg2
   refine W.call S rfl (date_leap_ok S.holds (hG.post S.post) p_year hr3) ?_
   rintro v4 w5 H6 hle7 S rfl
   refine WL.w (R.pickT rfl hb1 rfl) ?_
   exact WL.e ⟨(congrArg boo (oi hg2)), ag, ⟨H6, hle7, S⟩⟩
  ·replace hg2 := condF hg2 hb1
   refine WL.n rfl rfl hb1<|WL.n rfl rfl hb1<|WL.w (R.pickF rfl hb1 rfl) ?_
   exact WL.e ⟨(congrArg boo (oi hg2)), ag, ⟨H0, (Hp.le.refl _), S⟩⟩
 ·intro us w10 ⟨H9, hle11, S⟩
  refine WL.e ?_
  rcases condE h with ⟨hc12, h⟩ | ⟨hc12, h⟩
  ·refine WP.condT rfl hc12<|WP.s<|WP.g<|WL.a (int 29) rfl<|WL.e ?_
   obtain rfl := oi h
   refine WP.ret (Out.one rfl S rfl ?_)
   exact rfl
  ·refine WP.condF rfl hc12<|WP.skip<|WP.s<|WP.g<|WL.w (R.buildArr [(0, (int 31)), (1, (int 28)), (2, (int 31)), (3, (int 30)), (4, (int 31)), (5, (int 30)), (6, (int 31)), (7, (int 31)), (8, (int 30)), (9, (int 31)), (10, (int 30)), (11, (int 31))] [(int 31), (int 28), (int 31), (int 30), (int 31), (int 30), (int 31), (int 31), (int 30), (int 31), (int 30), (int 31)] Tryz.underlying257 lay3 zer257 rfl rfl)<|WL.m (int p_month) rfl<|WL.w (R.sub rfl rfl) ?_
   obtain ⟨n13, hn13, h⟩ := bindE h
   refine WL.w (R.idxA int (l := ([31, 28, 31, 30, 31, 30, 31, 31, 30, 31, 30, 31] : List Int)) rfl rfl Tryz.underlying257 lay3 rfl hn13)<|WL.a (int n13) rfl<|WL.e ?_
   obtain rfl := oi h
   refine WP.ret (Out.one rfl S rfl ?_)
   exact rfl
theorem date_before_ok {w0 : World} {H0 : Hp} (hw : Holds w0 H0) (hG : Tryz.Gl w0) (p_year : Int) {r : Int} (h : date_before p_year = some r) :
  Con Tryz.prog 245 [(int p_year)] w0 H0 (fun H' v => v = (int r)) := by
 refine Con.mk (N := 17) Tryz.func245 rfl rfl (by kernel_rfl) rfl ?_
 have S := St.start hw
 refine WP.s<|WP.g<|WL.a (int 0) rfl<|WL.e<|WP.s<|WP.g<|WL.m (int p_year) rfl<|WL.w (R.sub rfl rfl)<|WL.a (int (wr (p_year - 1))) rfl<|WL.e<|WP.s<|WP.g ?_
 refine WL.m (int (wr (p_year - 1))) rfl<|WL.w (R.mul rfl rfl)<|WL.m (int (wr (p_year - 1))) rfl ?_
 obtain ⟨n1, hn1, h⟩ := bindE h
 refine WL.w (R.quo' rfl rfl hn1)<|WL.w (R.add rfl rfl)<|WL.m (int (wr (p_year - 1))) rfl ?_
 obtain ⟨n2, hn2, h⟩ := bindE h
 refine WL.w (R.quo' rfl rfl hn2)<|WL.w (R.sub rfl rfl)<|WL.m (int (wr (p_year - 1))) rfl ?_
 obtain ⟨n3, hn3, h⟩ := bindE h
 refine WL.w (R.quo' rfl rfl hn3)<|WL.w (R.add rfl rfl)<|WL.a (int (wr ((wr ((wr ((wr (365 * (wr (p_year - 1)))) + n1)) - n2)) + n3))) rfl<|WL.e ?_
 obtain rfl := oi h
 refine WP.ret (Out.one rfl S rfl ?_)
 exact rfl
end Go.Proofs
