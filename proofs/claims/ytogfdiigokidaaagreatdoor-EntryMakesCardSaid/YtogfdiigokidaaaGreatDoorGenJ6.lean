/- A part of the proof of laws of the seat: written by program over the translation. -/
import Derived.Test.YtogfdiigokidaaaGreatDoorEng31
import Derived.Test.YtogfdiigokidaaaGreatDoorGenJ5
namespace Go.Proofs
set_option maxHeartbeats 4000000
set_option maxRecDepth 10000
open Go.Eng Go.Eng.Pure
set_option linter.unusedVariables false
theorem entry_Make_ok {w0 : World} {H0 : Hp} (hw : Holds w0 H0) (hG : Tryz.Gl w0) (p_q : GRequest) (p_r : GResponse) (p_requested : Int) (p_received : Int) {vp_q3 : Value} {vp_r3 : Value} (Rp_q3 : Sl (α := GField) H0 vp_q3 p_q.fFields) (Rp_r3 : Sl (α := GField) H0 vp_r3 p_r.fFields) {r : (GEntry × (List GAxis))} (h : entry_Make p_q p_r p_requested p_received = some r) :
  Con Tryz.prog 19 [(agg [(str p_q.fMethod), (str p_q.fTarget), (int p_q.fMinor), vp_q3, (str p_q.fBody)]), (agg [(int p_r.fMinor), (int p_r.fStatus), (str p_r.fReason), vp_r3, (str p_r.fBody)]), (int p_requested), (int p_received)] w0 H0 (fun H' v => ∃ u1 u2 u3 u4 u5 : Value, v = (.tuple ⟨[(agg [u1, u2, u3, (str r.1.fReason), u4, (str r.1.fBody), (int r.1.fRequested), (int r.1.fReceived)]), u5]⟩) ∧ Sl (α := (List Str)) H' u1 r.1.fKeys ∧ Sl (α := Str) H' u2 r.1.fVary ∧ Sl (α := Str) H' u3 r.1.fSnapshot ∧ Sl (α := GField) H' u4 r.1.fFields ∧ Sl (α := GAxis) H' u5 r.2) := by
 refine Con.mk (N := 62) Tryz.func19 rfl rfl (by kernel_rfl) rfl ?_
 have S := St.start hw
 refine WP.s<|WP.g<|W.box [(str p_q.fMethod), (str p_q.fTarget), (int p_q.fMinor), vp_q3, (str p_q.fBody)] S rfl rfl ?_
 intro b1 w2 S
 refine W.box [(int p_r.fMinor), (int p_r.fStatus), (str p_r.fReason), vp_r3, (str p_r.fBody)] S rfl rfl ?_
 intro b3 w4 S
 refine W.alloc [(.slice none 0 0), (.slice none 0 0), (.slice none 0 0), (str []), (.slice none 0 0), (str []), (int 0), (int 0)] S zer26 ?_
 intro b5 w6 S
 refine WL.a (.slice none 0 0) rfl<|WL.e<|WP.s ?_
 obtain ⟨r7, hr7, h⟩ := bindE h
 refine WP.cut (fun f w => ∃ (H16 : Hp) (b21 : Nat) (v22 : Value), f 4 = (ptr b1 0) ∧ f 5 = (ptr b3 0) ∧ f 8 = (ptr b5 0) ∧ f 10 = (ptr b21 0) ∧ Sl (α := GField) H16 v22 r7 ∧ Sl (α := GField) H16 vp_r3 p_r.fFields ∧ Sl (α := GField) H16 vp_q3 p_q.fFields ∧ St w0 H0 w H16 [.box b21 26 [(.slice none 0 0), (.slice none 0 0), (.slice none 0 0), (str p_r.fReason), v22, (str p_r.fBody), (int p_requested), (int p_received)], .box b5 26 [(.slice none 0 0), (.slice none 0 0), (.slice none 0 0), (str []), (.slice none 0 0), (str []), (int 0), (int 0)], .box b3 30 [(int p_r.fMinor), (int p_r.fStatus), (str p_r.fReason), vp_r3, (str p_r.fBody)], .box b1 40 [(str p_q.fMethod), (str p_q.fTarget), (int p_q.fMinor), vp_q3, (str p_q.fBody)]]) ?_ ?_
 ·refine WP.drawC (Cl w0 H0 H0 [.box b5 26 [(.slice none 0 0), (.slice none 0 0), (.slice none 0 0), (str []), (.slice none 0 0), (str []), (int 0), (int 0)], .box b3 30 [(int p_r.fMinor), (int p_r.fStatus), (str p_r.fReason), vp_r3, (str p_r.fBody)], .box b1 40 [(str p_q.fMethod), (str p_q.fTarget), (int p_q.fMinor), vp_q3, (str p_q.fBody)]]) (by kernel_rfl) 12 rfl #[false, false, false, false, false, false, false, false, false, false, false, false] rfl ?_
  have S := S.drew
  refine WC.take (i := 0) #[true, false, false, false, false, false, false, false, false, false, false, false] rfl (by kernel_rfl) (by kernel_rfl) (by kernel_rfl) rfl (fun _ _ => (R.fieldB rfl fld30_2))<|WC.take (i := 1) #[true, true, false, false, false, false, false, false, false, false, false, false] rfl (by kernel_rfl) (by kernel_rfl) (by kernel_rfl) rfl (fun w hw => by obtain ⟨_, hq, S⟩ := hw; exact (R.loadB (i := 1) (v := str p_r.fReason) S rfl rfl lay9 rfl))<|WC.take (i := 2) #[true, true, true, false, false, false, false, false, false, false, false, false] rfl (by kernel_rfl) (by kernel_rfl) (by kernel_rfl) rfl (fun _ _ => (R.fieldB rfl fld30_3))<|WC.take (i := 3) #[true, true, true, true, false, false, false, false, false, false, false, false] rfl (by kernel_rfl) (by kernel_rfl) (by kernel_rfl) rfl (fun w hw => by obtain ⟨_, hq, S⟩ := hw; exact (R.loadB (i := 1) (v := vp_r3) S rfl rfl lay24 rfl))<|WC.take (i := 5) #[true, true, true, true, false, true, false, false, false, false, false, false] rfl (by kernel_rfl) (by kernel_rfl) (by kernel_rfl) rfl (fun _ _ => (R.fieldB rfl fld30_4))<|WC.take (i := 6) #[true, true, true, true, false, true, true, false, false, false, false, false] rfl (by kernel_rfl) (by kernel_rfl) (by kernel_rfl) rfl (fun w hw => by obtain ⟨_, hq, S⟩ := hw; exact (R.loadB (i := 1) (v := str p_r.fBody) S rfl rfl lay9 rfl))<|WC.take (i := 7) #[true, true, true, true, false, true, true, true, false, false, false, false] rfl (by kernel_rfl) (by kernel_rfl) (by kernel_rfl) rfl (fun _ _ => (R.mv (v := int p_requested) rfl))<|WC.take (i := 8) #[true, true, true, true, false, true, true, true, true, false, false, false] rfl (by kernel_rfl) (by kernel_rfl) (by kernel_rfl) rfl (fun _ _ => (R.mv (v := int p_received) rfl)) ?_
  refine WC.next (rs := [4, 10]) ⟨H0, (Hp.le.refl _), S.drop _ (.cons_cons _ (.cons_cons _ (.cons_cons _ .slnil)))⟩ (by kernel_rfl) (List.cons_ne_nil _ _) (allS ?_ (all1 ?_))
  ·refine Nxt.mk (o := _) #[true, true, true, true, true, true, true, true, true, false, false, false] rfl rfl<|W.call S rfl (hop_Strip_ok S.holds (hG.post S.post) p_r.fFields Rp_r3 hr7) ?_
   rintro v26 w27 H28 hle29 S R30
   have Rp_q3 := Sl.mono Rp_q3 hle29
   have Rp_r3 := Sl.mono Rp_r3 hle29
   refine WL.e<|WC.take (i := 9) #[true, true, true, true, true, true, true, true, true, true, false, false] rfl (by kernel_rfl) (by kernel_rfl) (by kernel_rfl) rfl (fun _ _ => (R.build [(3, (str p_r.fReason)), (4, v26), (5, (str p_r.fBody)), (6, (int p_requested)), (7, (int p_received))] [(.slice none 0 0), (.slice none 0 0), (.slice none 0 0), (str p_r.fReason), v26, (str p_r.fBody), (int p_requested), (int p_received)] bp26 zer26 (by kernel_rfl) (by obtain ⟨_, _, rfl, _⟩ := R30; rfl))) ?_
   refine WC.next (rs := [10]) ⟨H28, hle29, S.drop _ (.cons_cons _ (.cons_cons _ (.cons_cons _ .slnil)))⟩ (by kernel_rfl) (List.cons_ne_nil _ _) (all1 ?_)
   refine Nxt.mk (o := _) #[true, true, true, true, true, true, true, true, true, true, true, false] rfl rfl<|W.alloc [(.slice none 0 0), (.slice none 0 0), (.slice none 0 0), (str []), (.slice none 0 0), (str []), (int 0), (int 0)] S zer26 ?_
   intro b31 w32 S
   refine WL.e ?_
   refine WC.next (rs := [11]) ⟨H28, hle29, S.drop _ (.cons _ (.cons_cons _ (.cons_cons _ (.cons_cons _ .slnil))))⟩ (by kernel_rfl) (List.cons_ne_nil _ _) (all1 ?_)
   refine Nxt.mk (o := _) #[true, true, true, true, true, true, true, true, true, true, true, true] rfl rfl<|W.store (i := 0) [(.slice none 0 0), (.slice none 0 0), (.slice none 0 0), (str p_r.fReason), v26, (str p_r.fBody), (int p_requested), (int p_received)] S rfl rfl rfl lay26 rfl (AllOne.all (l := [(.slice none 0 0), (.slice none 0 0), (.slice none 0 0), (str p_r.fReason), v26, (str p_r.fBody), (int p_requested), (int p_received)]) (.cons rfl (.cons rfl (.cons rfl (.cons rfl (.cons (Sl.oneC R30) (.cons rfl (.cons rfl (.cons rfl .nil))))))))) (Nat.le_of_ble_eq_true rfl) rfl ?_
   intro w33 S
   refine WL.e<|WC.done ⟨H28, hle29, S.drop _ (.cons _ (.cons_cons _ (.cons_cons _ (.cons_cons _ .slnil))))⟩ (by kernel_rfl) ?_
   have S3 := S
   replace S3 := S3.front 3 rfl
   replace S3 := S3.front 3 rfl
   replace S3 := S3.front 3 rfl
   replace S3 := S3.front 3 rfl
   replace S3 : St w0 H0 _ H28 [.box b31 26 [(.slice none 0 0), (.slice none 0 0), (.slice none 0 0), (str p_r.fReason), v26, (str p_r.fBody), (int p_requested), (int p_received)], .box b5 26 [(.slice none 0 0), (.slice none 0 0), (.slice none 0 0), (str []), (.slice none 0 0), (str []), (int 0), (int 0)], .box b3 30 [(int p_r.fMinor), (int p_r.fStatus), (str p_r.fReason), vp_r3, (str p_r.fBody)], .box b1 40 [(str p_q.fMethod), (str p_q.fTarget), (int p_q.fMinor), vp_q3, (str p_q.fBody)]] := S3
   replace S3 : St w0 H0 _ H28 [.box b31 26 [(.slice none 0 0), (.slice none 0 0), (.slice none 0 0), (str p_r.fReason), v26, (str p_r.fBody), (int p_requested), (int p_received)], .box b5 26 [(.slice none 0 0), (.slice none 0 0), (.slice none 0 0), (str []), (.slice none 0 0), (str []), (int 0), (int 0)], .box b3 30 [(int p_r.fMinor), (int p_r.fStatus), (str p_r.fReason), vp_r3, (str p_r.fBody)], .box b1 40 [(str p_q.fMethod), (str p_q.fTarget), (int p_q.fMinor), vp_q3, (str p_q.fBody)]] := S3.drop _ (.cons_cons _ (.cons_cons _ (.cons_cons _ (.cons_cons _ .slnil))))
   exact ⟨H28, b31, v26, rfl, rfl, rfl, rfl, R30, Rp_r3, Rp_q3, S3⟩
  ·refine Nxt.mk (o := _) #[true, true, true, true, false, true, true, true, true, false, true, false] rfl rfl<|W.alloc [(.slice none 0 0), (.slice none 0 0), (.slice none 0 0), (str []), (.slice none 0 0), (str []), (int 0), (int 0)] S zer26 ?_
   intro b34 w35 S
   refine WL.e ?_
   refine WC.next (rs := [4]) ⟨H0, (Hp.le.refl _), S.drop _ (.cons _ (.cons_cons _ (.cons_cons _ (.cons_cons _ .slnil))))⟩ (by kernel_rfl) (List.cons_ne_nil _ _) (all1 ?_)
   refine Nxt.mk (o := _) #[true, true, true, true, true, true, true, true, true, false, true, false] rfl rfl<|W.call S rfl (hop_Strip_ok S.holds (hG.post S.post) p_r.fFields Rp_r3 hr7) ?_
   rintro v36 w37 H38 hle39 S R40
   have Rp_q3 := Sl.mono Rp_q3 hle39
   have Rp_r3 := Sl.mono Rp_r3 hle39
   refine WL.e<|WC.take (i := 9) #[true, true, true, true, true, true, true, true, true, true, true, false] rfl (by kernel_rfl) (by kernel_rfl) (by kernel_rfl) rfl (fun _ _ => (R.build [(3, (str p_r.fReason)), (4, v36), (5, (str p_r.fBody)), (6, (int p_requested)), (7, (int p_received))] [(.slice none 0 0), (.slice none 0 0), (.slice none 0 0), (str p_r.fReason), v36, (str p_r.fBody), (int p_requested), (int p_received)] bp26 zer26 (by kernel_rfl) (by obtain ⟨_, _, rfl, _⟩ := R40; rfl))) ?_
   refine WC.next (rs := [11]) ⟨H38, hle39, S.drop _ (.cons _ (.cons_cons _ (.cons_cons _ (.cons_cons _ .slnil))))⟩ (by kernel_rfl) (List.cons_ne_nil _ _) (all1 ?_)
   refine Nxt.mk (o := _) #[true, true, true, true, true, true, true, true, true, true, true, true] rfl rfl<|W.store (i := 0) [(.slice none 0 0), (.slice none 0 0), (.slice none 0 0), (str p_r.fReason), v36, (str p_r.fBody), (int p_requested), (int p_received)] S rfl rfl rfl lay26 rfl (AllOne.all (l := [(.slice none 0 0), (.slice none 0 0), (.slice none 0 0), (str p_r.fReason), v36, (str p_r.fBody), (int p_requested), (int p_received)]) (.cons rfl (.cons rfl (.cons rfl (.cons rfl (.cons (Sl.oneC R40) (.cons rfl (.cons rfl (.cons rfl .nil))))))))) (Nat.le_of_ble_eq_true rfl) rfl ?_
   intro w41 S
   refine WL.e<|WC.done ⟨H38, hle39, S.drop _ (.cons _ (.cons_cons _ (.cons_cons _ (.cons_cons _ .slnil))))⟩ (by kernel_rfl) ?_
   have S3 := S
   replace S3 := S3.front 3 rfl
   replace S3 := S3.front 3 rfl
   replace S3 := S3.front 3 rfl
   replace S3 := S3.front 3 rfl
   replace S3 : St w0 H0 _ H38 [.box b34 26 [(.slice none 0 0), (.slice none 0 0), (.slice none 0 0), (str p_r.fReason), v36, (str p_r.fBody), (int p_requested), (int p_received)], .box b5 26 [(.slice none 0 0), (.slice none 0 0), (.slice none 0 0), (str []), (.slice none 0 0), (str []), (int 0), (int 0)], .box b3 30 [(int p_r.fMinor), (int p_r.fStatus), (str p_r.fReason), vp_r3, (str p_r.fBody)], .box b1 40 [(str p_q.fMethod), (str p_q.fTarget), (int p_q.fMinor), vp_q3, (str p_q.fBody)]] := S3
   replace S3 : St w0 H0 _ H38 [.box b34 26 [(.slice none 0 0), (.slice none 0 0), (.slice none 0 0), (str p_r.fReason), v36, (str p_r.fBody), (int p_requested), (int p_received)], .box b5 26 [(.slice none 0 0), (.slice none 0 0), (.slice none 0 0), (str []), (.slice none 0 0), (str []), (int 0), (int 0)], .box b3 30 [(int p_r.fMinor), (int p_r.fStatus), (str p_r.fReason), vp_r3, (str p_r.fBody)], .box b1 40 [(str p_q.fMethod), (str p_q.fTarget), (int p_q.fMinor), vp_q3, (str p_q.fBody)]] := S3.drop _ (.cons_cons _ (.cons_cons _ (.cons_cons _ (.cons_cons _ .slnil))))
   exact ⟨H38, b34, v36, rfl, rfl, rfl, rfl, R40, Rp_r3, Rp_q3, S3⟩
 ·rintro f w ⟨H16, b21, v22, h17, h18, h19, h20, R23, R24, R25, S⟩
  refine WP.s<|WP.g<|WL.w (R.fieldB h18 fld30_3)<|WL.w (R.loadB (i := 2) (v := vp_r3) S rfl rfl lay24 rfl) ?_
  obtain ⟨r42, hr42, h⟩ := bindE h
  refine W.call S rfl (variants_Parse_ok S.holds (hG.post S.post) p_r.fFields R24 hr42) ?_
  rintro v43 w44 H45 hle46 S ⟨u47, rfl, R48⟩
  have R24 := Sl.mono R24 hle46
  have R23 := Sl.mono R23 hle46
  have R25 := Sl.mono R25 hle46
  refine WL.m (.tuple ⟨[u47, (int r42.2)]⟩) rfl<|WL.w (R.ext rfl rfl)<|WL.w (R.ext rfl rfl)<|WL.a (u47) rfl<|WL.a (int r42.2) rfl<|WL.e<|WP.s<|WP.g<|WL.w (R.fieldB h18 fld30_3)<|WL.w (R.loadB (i := 2) (v := vp_r3) S rfl rfl lay24 rfl)<|WL.m (u47) rfl ?_
  obtain ⟨r49, hr49, h⟩ := bindE h
  refine W.call S rfl (variantkey_Parse_ok S.holds (hG.post S.post) p_r.fFields r42.1 R24 R48 hr49) ?_
  rintro v50 w51 H52 hle53 S ⟨u54, rfl, R55⟩
  have R24 := Sl.mono R24 hle53
  have R48 := Sl.mono R48 hle53
  have R23 := Sl.mono R23 hle53
  have R25 := Sl.mono R25 hle53
  refine WL.m (.tuple ⟨[u54, (int r49.2)]⟩) rfl<|WL.w (R.ext rfl rfl)<|WL.w (R.ext rfl rfl)<|WL.a (u54) rfl<|WL.a (int r49.2) rfl<|WL.e<|WP.s<|WP.s<|WP.g<|WL.m (int r42.2) rfl<|WL.w (R.eql rfl rfl)<|WL.m (boo (r42.2 == 0)) rfl ?_
  refine WL.grp 3 [41, 42] 43 (boo ((r42.2 == 0) && (r49.2 == 0))) ?_ ?_
  ·rcases boolE (r42.2 == 0) with hb56 | hb56
   ·refine WL.y rfl rfl hb56<|WL.m (int r49.2) rfl<|WL.y rfl rfl hb56<|WL.w (R.eql rfl rfl)<|WL.w (R.pickT rfl hb56 rfl) ?_
    exact WL.e ⟨(andT hb56), ag, rfl⟩
   ·refine WL.n rfl rfl hb56<|WL.n rfl rfl hb56<|WL.w (R.pickF rfl hb56 rfl) ?_
    exact WL.e ⟨(andF hb56), ag, rfl⟩
  ·intro us
   refine WL.e ?_
   rcases condE h with ⟨hc58, h⟩ | ⟨hc58, h⟩
   ·refine WP.condT rfl hc58<|WP.s<|WP.g<|WL.m (u54) rfl<|WL.w (R.fieldB h20 fld26_0)<|W.storeSl (α := (List Str)) (i := 0) [u54, (.slice none 0 0), (.slice none 0 0), (str p_r.fReason), v22, (str p_r.fBody), (int p_requested), (int p_received)] S R55 rfl rfl rfl lay22 (Nat.le_of_ble_eq_true rfl) rfl ?_
    intro w59 S
    refine WL.e<|WP.s<|WP.g<|WL.w (R.loadBN (i := 0) (vs := [u54, (.slice none 0 0), (.slice none 0 0), (str p_r.fReason), v22, (str p_r.fBody), (int p_requested), (int p_received)]) S h20 rfl lay26 rfl rfl)<|WL.m (u47) rfl<|W.store (i := 1) [u54, (.slice none 0 0), (.slice none 0 0), (str p_r.fReason), v22, (str p_r.fBody), (int p_requested), (int p_received)] S h19 rfl rfl lay26 rfl (AllOne.all (l := [u54, (.slice none 0 0), (.slice none 0 0), (str p_r.fReason), v22, (str p_r.fBody), (int p_requested), (int p_received)]) (.cons (Sl.oneC R55) (.cons rfl (.cons rfl (.cons rfl (.cons (Sl.oneC R23) (.cons rfl (.cons rfl (.cons rfl .nil))))))))) (Nat.le_of_ble_eq_true rfl) rfl ?_
    intro w60 S
    refine WL.a (u47) rfl<|WL.e ?_
    obtain rfl := oi h
    refine WP.ret (Out.two rfl S (Res.cellB (i := 1) (cs := [u54, (.slice none 0 0), (.slice none 0 0), (str p_r.fReason), v22, (str p_r.fBody), (int p_requested), (int p_received)]) S h19 rfl lay26 rfl rfl) rfl ?_)
    exact ⟨_, _, _, _, _, rfl, R55, Sl.nil, Sl.nil, R23, R48⟩
   ·refine WP.condF rfl hc58<|WP.skip<|WP.s<|WP.g<|WL.w (R.fieldB h18 fld30_3)<|WL.w (R.loadB (i := 2) (v := vp_r3) S rfl rfl lay24 rfl) ?_
    obtain ⟨r61, hr61, h⟩ := bindE h
    refine W.call S rfl (vary_Names_ok S.holds (hG.post S.post) p_r.fFields R24 hr61) ?_
    rintro v62 w63 H64 hle65 S ⟨u66, rfl, R67⟩
    have R23 := Sl.mono R23 hle65
    have R25 := Sl.mono R25 hle65
    refine WL.m (.tuple ⟨[u66, (boo r61.2)]⟩) rfl<|WL.w (R.ext rfl rfl)<|WL.w (R.ext rfl rfl)<|WL.w (R.fieldB h20 fld26_1)<|W.storeSl (α := Str) (i := 0) [(.slice none 0 0), u66, (.slice none 0 0), (str p_r.fReason), v22, (str p_r.fBody), (int p_requested), (int p_received)] S R67 rfl rfl rfl lay23 (Nat.le_of_ble_eq_true rfl) rfl ?_
    intro w68 S
    refine WL.e<|WP.s<|WP.g<|WL.w (R.fieldB h20 fld26_1)<|WL.w (R.loadB (i := 0) (v := u66) S rfl rfl lay23 rfl)<|WL.w (R.fieldB h17 fld40_3)<|WL.w (R.loadB (i := 3) (v := vp_q3) S rfl rfl lay24 rfl) ?_
    obtain ⟨r69, hr69, h⟩ := bindE h
    refine W.call S rfl (vary_Snapshot_ok S.holds (hG.post S.post) r61.1 p_q.fFields R67 R25 hr69) ?_
    rintro v70 w71 H72 hle73 S R74
    have R67 := Sl.mono R67 hle73
    have R23 := Sl.mono R23 hle73
    refine WL.w (R.fieldB h20 fld26_2)<|W.storeSl (α := Str) (i := 0) [(.slice none 0 0), u66, v70, (str p_r.fReason), v22, (str p_r.fBody), (int p_requested), (int p_received)] S R74 rfl rfl rfl lay23 (Nat.le_of_ble_eq_true rfl) rfl ?_
    intro w75 S
    refine WL.e<|WP.s<|WP.g<|WL.w (R.loadBN (i := 0) (vs := [(.slice none 0 0), u66, v70, (str p_r.fReason), v22, (str p_r.fBody), (int p_requested), (int p_received)]) S h20 rfl lay26 rfl rfl)<|W.store (i := 1) [(.slice none 0 0), u66, v70, (str p_r.fReason), v22, (str p_r.fBody), (int p_requested), (int p_received)] S h19 rfl rfl lay26 rfl (AllOne.all (l := [(.slice none 0 0), u66, v70, (str p_r.fReason), v22, (str p_r.fBody), (int p_requested), (int p_received)]) (.cons rfl (.cons (Sl.oneC R67) (.cons (Sl.oneC R74) (.cons rfl (.cons (Sl.oneC R23) (.cons rfl (.cons rfl (.cons rfl .nil))))))))) (Nat.le_of_ble_eq_true rfl) rfl ?_
    intro w76 S
    refine WL.a (.slice none 0 0) rfl<|WL.e ?_
    obtain rfl := oi h
    refine WP.ret (Out.two rfl S (Res.cellB (i := 1) (cs := [(.slice none 0 0), u66, v70, (str p_r.fReason), v22, (str p_r.fBody), (int p_requested), (int p_received)]) S h19 rfl lay26 rfl rfl) rfl ?_)
    exact ⟨_, _, _, _, _, rfl, Sl.nil, R67, R74, R23, Sl.nil⟩
theorem ref01_Lower_ok {w0 : World} {H0 : Hp} (hw : Holds w0 H0) (hG : Tryz.Gl w0) (p_s : Str) {r : Str} (h : ref01_Lower p_s = some r) :
  Con Tryz.prog 101 [(str p_s)] w0 H0 (fun H' v => v = (str r)) := by
 refine Con.mk (N := 33) Tryz.func101 rfl rfl (by kernel_rfl) rfl ?_
 have S := St.start hw
 refine WP.s<|WP.g<|WL.a (str []) rfl<|WL.e<|WP.s<|WP.g<|WL.m (str p_s) rfl<|W.bytes (s := p_s) S rfl Tryz.underlying9 Tryz.underlying130 Tryz.underlying5 ?_
 intro b1 c2 w3 hc2 S
 refine WL.a (.slice (some ⟨b1, 0, none⟩) p_s.length c2) rfl<|WL.e<|WP.s<|WP.s<|WP.g<|WL.a (int 0) rfl<|WL.e ?_
 obtain ⟨m12, hr18, h⟩ := bindE h
 refine WP.cut (fun f w => ∃ (H10 : Hp), f 3 = (.slice (some ⟨b1, 0, none⟩) p_s.length c2) ∧ m12.length = p_s.length ∧ St w0 H0 w H10 [.box b1 5 (m12.map byt)]) ?_ ?_
 ·refine WP.block ?_
  refine WP.loopM (ref01_Lower_L0 p_s) (fun s f w => match s with | (i_6, m8) => ∃ (H4 : Hp), f 3 = (.slice (some ⟨b1, 0, none⟩) p_s.length c2) ∧ f 4 = (int i_6) ∧ m8.length = p_s.length ∧ St w0 H0 w H4 [.box b1 5 (m8.map byt)]) (0, p_s) m12 hr18 ?_ ?_
  ·exact ⟨H0, rfl, rfl, rfl, S⟩
  ·intro s f w hI y14 hy15 hy16
   obtain ⟨i_6, m8⟩ := s
   obtain ⟨H4, h5, h7, hL9, S⟩ := hI
   refine WP.s<|WP.s<|WP.g<|WL.m (int i_6) h7<|WL.m (.slice (some ⟨b1, 0, none⟩) p_s.length c2) h5<|WL.w (R.lenV rfl Tryz.underlying130)<|WL.w (R.lss rfl rfl)<|WL.e ?_
   rcases condE hy15 with ⟨hc19, hy15⟩ | ⟨hc19, hy15⟩
   ·refine WP.condT rfl hc19<|WP.skip<|WP.s<|WP.block<|WP.s<|WP.g<|WL.m (.slice (some ⟨b1, 0, none⟩) p_s.length c2) h5<|WL.m (int i_6) h7 ?_
    obtain ⟨c20, hc20, hy15⟩ := bindE hy15
    have hq21 := (map_byt_get hc20).2
    refine WL.w (R.idxB rfl rfl el130 (by have := (map_byt_get hc20).2; have hl : m8.length = p_s.length := hL9; omega)) ?_
    obtain ⟨c22, hc22, hy15⟩ := bindE hy15
    refine WL.w (R.loadB (i := 0) S rfl rfl lay5 (map_byt_get hc22).1)<|WL.w (R.geq8 (a := c22) (b := 65) rfl rfl)<|WL.m (boo (decide (65 ≤ c22))) rfl ?_
    obtain ⟨b28, hg24, hy15⟩ := bindE hy15
    refine WL.grp 6 [19, 20, 21, 22, 23] 24 (boo b28) ?_ ?_
    ·rcases boolE (decide (65 ≤ c22)) with hb23 | hb23
     ·replace hg24 := condT hg24 hb23
      refine WL.y rfl rfl hb23<|WL.m (.slice (some ⟨b1, 0, none⟩) p_s.length c2) h5<|WL.y rfl rfl hb23<|WL.m (int i_6) h7<|WL.y rfl rfl hb23 ?_
      obtain ⟨c25, hc25, hg24⟩ := bindE hg24
      have hq26 := (map_byt_get hc25).2
      refine WL.w (R.idxB rfl rfl el130 (by have := (map_byt_get hc25).2; have hl : m8.length = p_s.length := hL9; omega))<|WL.y rfl rfl hb23 ?_
      obtain ⟨c27, hc27, hg24⟩ := bindE hg24
      refine WL.w (R.loadB (i := 0) S rfl rfl lay5 (map_byt_get hc27).1)<|WL.y rfl rfl hb23<|WL.w (R.leq8 (a := c27) (b := 90) rfl rfl)<|WL.w (R.pickT rfl hb23 rfl) ?_
      exact WL.e ⟨(congrArg boo (oi hg24)), ag, rfl⟩
     ·replace hg24 := condF hg24 hb23
      refine WL.n rfl rfl hb23<|WL.n rfl rfl hb23<|WL.n rfl rfl hb23<|WL.n rfl rfl hb23<|WL.n rfl rfl hb23<|WL.w (R.pickF rfl hb23 rfl) ?_
      exact WL.e ⟨(congrArg boo (oi hg24)), ag, rfl⟩
    ·intro us
     refine WL.e ?_
     rcases condE hy15 with ⟨hc29, hy15⟩ | ⟨hc29, hy15⟩
     ·refine WP.condT rfl hc29<|WP.g<|WL.m (.slice (some ⟨b1, 0, none⟩) p_s.length c2) h5<|WL.m (int i_6) h7 ?_
      obtain ⟨c30, hc30, hy15⟩ := bindE hy15
      have hq31 := (map_byt_get hc30).2
      refine WL.w (R.idxB rfl rfl el130 (by have := (map_byt_get hc30).2; have hl : m8.length = p_s.length := hL9; omega)) ?_
      obtain ⟨c32, hc32, hy15⟩ := bindE hy15
      refine WL.w (R.loadB (i := 0) S rfl rfl lay5 (map_byt_get hc32).1)<|WL.w (R.add8 (a := c32) (b := 32) rfl rfl) ?_
      obtain ⟨c33, hc33, hy15⟩ := bindE hy15
      have hq34 := (map_byt_get hc33).2
      refine WL.w (R.idxB rfl rfl el130 (by have := (map_byt_get hc33).2; have hl : m8.length = p_s.length := hL9; omega))<|W.store (i := 0) ((m8.set i_6.toNat (c32 + 32)).map byt) S rfl rfl rfl lay5 rfl rfl (by rw [List.length_map]; omega) (splice_byt _ _ _ (by omega)) ?_
      intro w35 S
      refine WL.e<|WP.g<|WL.m (int i_6) h7<|WL.w (R.add rfl rfl)<|WL.a (int (wr (i_6 + 1))) rfl<|WL.e ?_
      obtain rfl := oi hy15
      exact ⟨rfl, ⟨H4, h5, rfl, (List.length_set.trans hL9), S⟩⟩
     ·refine WP.condF rfl hc29<|WP.skip<|WP.g<|WL.m (int i_6) h7<|WL.w (R.add rfl rfl)<|WL.a (int (wr (i_6 + 1))) rfl<|WL.e ?_
      obtain rfl := oi hy15
      exact ⟨rfl, ⟨H4, h5, rfl, hL9, S⟩⟩
   ·refine WP.condF rfl hc19<|WP.exit ?_
    obtain rfl := oi hy15
    obtain rfl := hy16
    exact ⟨H4, h5, hL9, S⟩
 ·rintro f w ⟨H10, h11, hL13, S⟩
  refine WP.s<|WP.g<|WL.m (.slice (some ⟨b1, 0, none⟩) p_s.length c2) h11<|WL.w (R.strB (i := 0) (s := m12) S (by rw [show m12.length = p_s.length from hL13]; exact rfl) rfl Tryz.underlying130 Tryz.underlying9 Tryz.underlying5)<|WL.a (str m12) rfl<|WL.e ?_
  obtain rfl := oi h
  refine WP.ret (Out.one rfl S rfl ?_)
  exact rfl
theorem ref01_Fold_ok {w0 : World} {H0 : Hp} (hw : Holds w0 H0) (hG : Tryz.Gl w0) (p_a : Str) (p_b : Str) {r : Bool} (h : ref01_Fold p_a p_b = some r) :
  Con Tryz.prog 56 [(str p_a), (str p_b)] w0 H0 (fun H' v => v = (boo r)) := by
 refine Con.mk (N := 17) Tryz.func56 rfl rfl (by kernel_rfl) rfl ?_
 have S := St.start hw
 refine WP.s<|WP.g<|WL.a (boo false) rfl<|WL.e<|WP.s<|WP.g<|WL.m (str p_a) rfl<|WL.w (R.lenS (a := p_a) rfl Tryz.underlying9)<|WL.m (str p_b) rfl<|WL.w (R.lenS (a := p_b) rfl Tryz.underlying9)<|WL.w (R.eql rfl rfl)<|WL.m (boo ((p_a.length : Int) == (p_b.length : Int))) rfl ?_
 obtain ⟨b13, hg2, h⟩ := bindE h
 refine WL.grpw 6 [11, 12, 13, 14, 15] 16 (boo b13) (fun w => ∃ H' : Hp, H0.le H' ∧ St w0 H0 w H' []) ?_ ?_
 ·rcases boolE ((p_a.length : Int) == (p_b.length : Int)) with hb1 | hb1
  ·replace hg2 := condT hg2 hb1
   refine WL.y rfl rfl hb1<|WL.m (str p_a) rfl<|WL.y rfl rfl hb1 ?_
   obtain ⟨r3, hr3, hg2⟩ := bindE hg2
   refine W.call S rfl (ref01_Lower_ok S.holds (hG.post S.post) p_a hr3) ?_
   rintro v4 w5 H6 hle7 S rfl
   refine WL.y rfl rfl hb1<|WL.m (str p_b) rfl<|WL.y rfl rfl hb1 ?_
   obtain ⟨r8, hr8, hg2⟩ := bindE hg2
   refine W.call S rfl (ref01_Lower_ok S.holds (hG.post S.post) p_b hr8) ?_
   rintro v9 w10 H11 hle12 S rfl
   refine WL.y rfl rfl hb1<|WL.w (R.eqlS (a := r3) (b := r8) rfl rfl)<|WL.w (R.pickT rfl hb1 rfl) ?_
   exact WL.e ⟨(congrArg boo (oi hg2)), ag, ⟨H11, (hle7.trans hle12), S⟩⟩
  ·replace hg2 := condF hg2 hb1
   refine WL.n rfl rfl hb1<|WL.n rfl rfl hb1<|WL.n rfl rfl hb1<|WL.n rfl rfl hb1<|WL.n rfl rfl hb1<|WL.w (R.pickF rfl hb1 rfl) ?_
   exact WL.e ⟨(congrArg boo (oi hg2)), ag, ⟨H0, (Hp.le.refl _), S⟩⟩
 ·intro us w15 ⟨H14, hle16, S⟩
  refine WL.a (boo b13) rfl<|WL.e ?_
  obtain rfl := oi h
  refine WP.ret (Out.one rfl S rfl ?_)
  exact rfl
theorem ref01_Get_ok {w0 : World} {H0 : Hp} (hw : Holds w0 H0) (hG : Tryz.Gl w0) (p_l : (List GField)) (p_name : Str) {vp_l : Value} (Rp_l : Sl (α := GField) H0 vp_l p_l) {r : (List Str)} (h : ref01_Get p_l p_name = some r) :
  Con Tryz.prog 80 [vp_l, (str p_name)] w0 H0 (fun H' v => Sl (α := Str) H' v r) := by
 refine Con.mk (N := 29) Tryz.func80 rfl rfl (by kernel_rfl) rfl ?_
 have S := St.start hw
 refine WP.s<|WP.g<|WL.a (.slice none 0 0) rfl<|WL.e<|WP.s<|WP.g<|WL.a (.slice none 0 0) rfl<|WL.e<|WP.s<|WP.s<|WP.g<|WL.a (int 0) rfl ?_
 refine WL.e ?_
 have S := S.addNil 9 1
 obtain ⟨out_11, hr19, h⟩ := bindE h
 refine WP.cut (fun f w => ∃ (H10 : Hp) (v12 : Value), f 5 = v12 ∧ Sl (α := Str) H10 v12 out_11 ∧ St w0 H0 w H10 [.row v12 9 1 out_11.length]) ?_ ?_
 ·refine WP.block ?_
  refine WP.loopM (ref01_Get_L0 p_l p_name) (fun s f w => match s with | (out_4, i_8) => ∃ (H1 : Hp) (v5 : Value), f 0 = vp_l ∧ f 1 = (str p_name) ∧ f 5 = v5 ∧ f 6 = (int i_8) ∧ Sl (α := GField) H1 vp_l p_l ∧ Sl (α := Str) H1 v5 out_4 ∧ St w0 H0 w H1 [.row v5 9 1 out_4.length]) (([] : List Str), 0) out_11 hr19 ?_ ?_
  ·exact ⟨H0, .slice none 0 0, rfl, rfl, rfl, rfl, Rp_l, Sl.nil, S⟩
  ·intro s f w hI y15 hy16 hy17
   obtain ⟨out_4, i_8⟩ := s
   obtain ⟨H1, v5, h2, h3, h7, h9, Rp_l, R6, S⟩ := hI
   refine WP.s<|WP.s<|WP.g<|WL.m (int i_8) h9<|WL.m (vp_l) h2<|WL.w (R.lenL (α := GField) (xs := p_l) (H := H1) Rp_l rfl Tryz.underlying24)<|WL.w (R.lss rfl rfl)<|WL.e ?_
   rcases condE hy16 with ⟨hc20, hy16⟩ | ⟨hc20, hy16⟩
   ·refine WP.condT rfl hc20<|WP.skip<|WP.s<|WP.block<|WP.s<|WP.g<|WL.m (vp_l) h2<|WL.m (int i_8) h9 ?_
    obtain ⟨x21, hx21, hy16⟩ := bindE hy16
    refine W.idx (α := GField) Rp_l rfl rfl el24 hx21 ?_
    rintro a22 _ hA23 rfl
    refine WL.w (R.field rfl fld53_0) ?_
    have hA24 := At.add hA23 0 (by simp)
    refine WL.w (R.loadH (v := str x21.fName) S rfl hA24 lay9 rfl)<|WL.m (str p_name) h3 ?_
    obtain ⟨r25, hr25, hy16⟩ := bindE hy16
    refine W.call S rfl (ref01_Fold_ok S.holds (hG.post S.post) x21.fName p_name hr25) ?_
    rintro v26 w27 H28 hle29 S rfl
    have Rp_l := Sl.mono Rp_l hle29
    have R6 := Sl.mono R6 hle29
    refine WL.e ?_
    rcases condE hy16 with ⟨hc30, hy16⟩ | ⟨hc30, hy16⟩
    ·refine WP.condT rfl hc30<|WP.g<|WL.m (v5) h7<|WL.m (vp_l) h2<|WL.m (int i_8) h9 ?_
     obtain ⟨x31, hx31, hy16⟩ := bindE hy16
     refine W.idx (α := GField) Rp_l rfl rfl el24 hx31 ?_
     rintro a32 _ hA33 rfl
     refine WL.w (R.field rfl fld53_1) ?_
     have hA34 := At.add hA33 1 (by simp)
     refine WL.w (R.loadH (v := str x31.fValue) S rfl hA34 lay9 rfl)<|W.bslice (α := Str) [(str x31.fValue)] ([x31.fValue] : List Str) S el23 rfl rfl rfl (by decide) (Go.Eng.encS ⟨rfl, rfl⟩ enc0) ?_
     intro u35 w36 H37 hle38 R39 S
     have Rp_l := Sl.mono Rp_l hle38
     have R6 := Sl.mono R6 hle38
     obtain ⟨l40, hl40, hy16⟩ := bindE hy16
     refine W.app (α := Str) (i := 1) S el23 rfl rfl rfl R6 R39 hl40 ?_
     intro v41 w42 H43 hle44 R45 S
     have Rp_l := Sl.mono Rp_l hle44
     have R6 := Sl.mono R6 hle44
     refine WL.a (v41) rfl<|WL.e<|WP.g<|WL.m (int i_8) h9<|WL.w (R.add rfl rfl)<|WL.a (int (wr (i_8 + 1))) rfl<|WL.e ?_
     obtain rfl := oi hy16
     exact ⟨rfl, ⟨H43, v41, h2, h3, rfl, rfl, Rp_l, R45, (S.drop _ (.cons _ (.cons_cons _ .slnil)))⟩⟩
    ·refine WP.condF rfl hc30<|WP.skip<|WP.g<|WL.m (int i_8) h9<|WL.w (R.add rfl rfl)<|WL.a (int (wr (i_8 + 1))) rfl<|WL.e ?_
     obtain rfl := oi hy16
     exact ⟨rfl, ⟨H28, v5, h2, h3, h7, rfl, Rp_l, R6, S⟩⟩
   ·refine WP.condF rfl hc20<|WP.exit ?_
    obtain rfl := oi hy16
    obtain rfl := hy17
    exact ⟨H1, v5, h7, R6, S⟩
 ·rintro f w ⟨H10, v12, h14, R13, S⟩
  refine WP.s<|WP.g<|WL.m (v12) h14<|WL.a (v12) rfl<|WL.e ?_
  obtain rfl := oi h
  refine WP.ret (Out.one rfl S rfl ?_)
  exact R13
theorem ref01_Cut_ok {w0 : World} {H0 : Hp} (hw : Holds w0 H0) (hG : Tryz.Gl w0) (p_s : Str) (p_at : UInt8) {r : (List Str)} (h : ref01_Cut p_s p_at = some r) :
  Con Tryz.prog 151 [(str p_s), (byt p_at)] w0 H0 (fun H' v => Sl (α := Str) H' v r) := by
 refine Con.mk (N := 57) Tryz.func151 rfl rfl (by kernel_rfl) rfl ?_
 have S := St.start hw
 refine WP.s<|WP.g<|WL.a (.slice none 0 0) rfl<|WL.e<|WP.s<|WP.g<|WL.a (.slice none 0 0) rfl<|WL.e<|WP.s<|WP.g<|WL.a (int 0) rfl<|WL.a (boo false) rfl ?_
 refine WL.e<|WP.s<|WP.s<|WP.g<|WL.a (int 0) rfl<|WL.e ?_
 have S := S.addNil 9 1
 obtain ⟨r25, hr26, h⟩ := bindE h
 refine WP.cut (fun f w => match r25 with | (out_16, from_20) => ∃ (H14 : Hp) (v17 : Value), f 0 = (str p_s) ∧ f 5 = v17 ∧ f 6 = (int from_20) ∧ Sl (α := Str) H14 v17 out_16 ∧ St w0 H0 w H14 [.row v17 9 1 out_16.length]) ?_ ?_
 ·refine WP.block ?_
  refine WP.loopM (ref01_Cut_L0 p_s p_at) (fun s f w => match s with | (out_4, from_8, quoted_10, i_12) => ∃ (H1 : Hp) (v5 : Value), f 0 = (str p_s) ∧ f 1 = (byt p_at) ∧ f 5 = v5 ∧ f 6 = (int from_8) ∧ f 7 = (boo quoted_10) ∧ f 8 = (int i_12) ∧ Sl (α := Str) H1 v5 out_4 ∧ St w0 H0 w H1 [.row v5 9 1 out_4.length]) (([] : List Str), 0, false, 0) r25 hr26 ?_ ?_
  ·exact ⟨H0, .slice none 0 0, rfl, rfl, rfl, rfl, rfl, rfl, Sl.nil, S⟩
  ·intro s f w hI y22 hy23 hy24
   obtain ⟨out_4, from_8, quoted_10, i_12⟩ := s
   obtain ⟨H1, v5, h2, h3, h7, h9, h11, h13, R6, S⟩ := hI
   refine WP.s<|WP.s<|WP.g<|WL.m (int i_12) h13<|WL.m (str p_s) h2<|WL.w (R.lenS (a := p_s) rfl Tryz.underlying9)<|WL.w (R.lss rfl rfl)<|WL.e ?_
   rcases condE hy23 with ⟨hc27, hy23⟩ | ⟨hc27, hy23⟩
   ·refine WP.condT rfl hc27<|WP.skip<|WP.s<|WP.block<|WP.block<|WP.s<|WP.g<|WL.m (boo quoted_10) h11<|WL.m (boo quoted_10) rfl ?_
    obtain ⟨b31, hg29, hy23⟩ := bindE hy23
    refine WL.grp 5 [18, 19, 20, 21] 22 (boo b31) ?_ ?_
    ·rcases boolE quoted_10 with hb28 | hb28
     ·replace hg29 := condT hg29 hb28
      refine WL.y rfl rfl hb28<|WL.m (str p_s) h2<|WL.y rfl rfl hb28<|WL.m (int i_12) h13<|WL.y rfl rfl hb28 ?_
      obtain ⟨c30, hc30, hg29⟩ := bindE hg29
      refine WL.w (R.idxS rfl rfl Tryz.underlying9 hc30)<|WL.y rfl rfl hb28<|WL.w (R.eql8 (a := c30) (b := 92) rfl rfl)<|WL.w (R.pickT rfl hb28 rfl) ?_
      exact WL.e ⟨(congrArg boo (oi hg29)), ag, rfl⟩
     ·replace hg29 := condF hg29 hb28
      refine WL.n rfl rfl hb28<|WL.n rfl rfl hb28<|WL.n rfl rfl hb28<|WL.n rfl rfl hb28<|WL.w (R.pickF rfl hb28 rfl) ?_
      exact WL.e ⟨(congrArg boo (oi hg29)), ag, rfl⟩
    ·intro us
     refine WL.a (boo b31) rfl<|WL.e ?_
     rcases condE hy23 with ⟨hc32, hy23⟩ | ⟨hc32, hy23⟩
     ·refine WP.condT rfl hc32<|WP.g<|WL.m (int i_12) h13<|WL.w (R.add rfl rfl)<|WL.a (int (wr (i_12 + 1))) rfl<|WL.e<|WP.g<|WL.m (int (wr (i_12 + 1))) rfl<|WL.w (R.add rfl rfl)<|WL.a (int (wr ((wr (i_12 + 1)) + 1))) rfl<|WL.e ?_
      obtain rfl := oi hy23
      exact ⟨rfl, ⟨H1, v5, h2, h3, h7, h9, h11, rfl, R6, S⟩⟩
     ·refine WP.condF rfl hc32<|WP.s<|WP.g<|WL.m (str p_s) h2<|WL.m (int i_12) h13 ?_
      obtain ⟨c33, hc33, hy23⟩ := bindE hy23
      refine WL.w (R.idxS rfl rfl Tryz.underlying9 hc33)<|WL.w (R.eql8 (a := c33) (b := 34) rfl rfl)<|WL.a (boo (c33 == 34)) rfl<|WL.e ?_
      rcases condE hy23 with ⟨hc34, hy23⟩ | ⟨hc34, hy23⟩
      ·refine WP.condT rfl hc34<|WP.g<|WL.m (boo quoted_10) h11<|WL.w (R.not rfl)<|WL.a (boo (!quoted_10)) rfl<|WL.e<|WP.g<|WL.m (int i_12) h13<|WL.w (R.add rfl rfl)<|WL.a (int (wr (i_12 + 1))) rfl<|WL.e ?_
       obtain rfl := oi hy23
       exact ⟨rfl, ⟨H1, v5, h2, h3, h7, h9, rfl, rfl, R6, S⟩⟩
      ·refine WP.condF rfl hc34<|WP.s<|WP.g<|WL.m (str p_s) h2<|WL.m (int i_12) h13 ?_
       obtain ⟨c35, hc35, hy23⟩ := bindE hy23
       refine WL.w (R.idxS rfl rfl Tryz.underlying9 hc35)<|WL.m (byt p_at) h3<|WL.w (R.eql8 (a := c35) (b := p_at) rfl rfl)<|WL.m (boo (c35 == p_at)) rfl ?_
       refine WL.grp 3 [39, 40] 41 (boo ((c35 == p_at) && (!quoted_10))) ?_ ?_
       ·rcases boolE (c35 == p_at) with hb36 | hb36
        ·refine WL.y rfl rfl hb36<|WL.m (boo quoted_10) h11<|WL.y rfl rfl hb36<|WL.w (R.not rfl)<|WL.w (R.pickT rfl hb36 rfl) ?_
         exact WL.e ⟨(andT hb36), ag, rfl⟩
        ·refine WL.n rfl rfl hb36<|WL.n rfl rfl hb36<|WL.w (R.pickF rfl hb36 rfl) ?_
         exact WL.e ⟨(andF hb36), ag, rfl⟩
       ·intro us
        refine WL.a (boo ((c35 == p_at) && (!quoted_10))) rfl<|WL.e ?_
        rcases condE hy23 with ⟨hc38, hy23⟩ | ⟨hc38, hy23⟩
        ·refine WP.condT rfl hc38<|WP.s<|WP.g<|WL.m (v5) h7<|WL.m (str p_s) h2<|WL.m (int from_8) h9<|WL.m (int i_12) h13 ?_
         obtain ⟨s39, hs39, hy23⟩ := bindE hy23
         refine WL.w (R.subS rfl rfl rfl Tryz.underlying9 hs39)<|W.bslice (α := Str) [(str s39)] ([s39] : List Str) S el23 rfl rfl rfl (by decide) (Go.Eng.encS ⟨rfl, rfl⟩ enc0) ?_
         intro u40 w41 H42 hle43 R44 S
         have R6 := Sl.mono R6 hle43
         obtain ⟨l45, hl45, hy23⟩ := bindE hy23
         refine W.app (α := Str) (i := 1) S el23 rfl rfl rfl R6 R44 hl45 ?_
         intro v46 w47 H48 hle49 R50 S
         have R6 := Sl.mono R6 hle49
         refine WL.a (v46) rfl<|WL.e<|WP.g<|WL.m (int i_12) h13<|WL.w (R.add rfl rfl)<|WL.a (int (wr (i_12 + 1))) rfl<|WL.e<|WP.g<|WL.m (int i_12) h13<|WL.w (R.add rfl rfl)<|WL.a (int (wr (i_12 + 1))) rfl<|WL.e ?_
         obtain rfl := oi hy23
         exact ⟨rfl, ⟨H48, v46, h2, h3, rfl, rfl, h11, rfl, R50, (S.drop _ (.cons _ (.cons_cons _ .slnil)))⟩⟩
        ·refine WP.condF rfl hc38<|WP.skip<|WP.g<|WL.m (int i_12) h13<|WL.w (R.add rfl rfl)<|WL.a (int (wr (i_12 + 1))) rfl<|WL.e ?_
         obtain rfl := oi hy23
         exact ⟨rfl, ⟨H1, v5, h2, h3, h7, h9, h11, rfl, R6, S⟩⟩
   ·refine WP.condF rfl hc27<|WP.exit ?_
    obtain rfl := oi hy23
    obtain rfl := hy24
    exact ⟨H1, v5, h2, h7, h9, R6, S⟩
 ·intro f w hM
  obtain ⟨out_16, from_20⟩ := r25
  obtain ⟨H14, v17, h15, h19, h21, R18, S⟩ := hM
  refine WP.s<|WP.g<|WL.m (v17) h19<|WL.m (str p_s) h15<|WL.m (int from_20) h21 ?_
  obtain ⟨s51, hs51, h⟩ := bindE h
  refine WL.w (R.subSlo rfl rfl Tryz.underlying9 hs51)<|W.bslice (α := Str) [(str s51)] ([s51] : List Str) S el23 rfl rfl rfl (by decide) (Go.Eng.encS ⟨rfl, rfl⟩ enc0) ?_
  intro u52 w53 H54 hle55 R56 S
  have R18 := Sl.mono R18 hle55
  obtain ⟨l57, hl57, h⟩ := bindE h
  refine W.app (α := Str) (i := 1) S el23 rfl rfl rfl R18 R56 hl57 ?_
  intro v58 w59 H60 hle61 R62 S
  refine WL.a (v58) rfl<|WL.e ?_
  obtain rfl := oi h
  refine WP.ret (Out.one rfl S rfl ?_)
  exact R62
theorem ref01_blank_ok {w0 : World} {H0 : Hp} (hw : Holds w0 H0) (hG : Tryz.Gl w0) (p_c : UInt8) {r : Bool} (h : ref01_blank p_c = some r) :
  Con Tryz.prog 165 [(byt p_c)] w0 H0 (fun H' v => v = (boo r)) := by
 refine Con.mk (N := 9) Tryz.func165 rfl rfl (by kernel_rfl) rfl ?_
 have S := St.start hw
 refine WP.s<|WP.g<|WL.a (boo false) rfl<|WL.e<|WP.s<|WP.g<|WL.m (byt p_c) rfl<|WL.w (R.eql8 (a := p_c) (b := 32) rfl rfl)<|WL.m (boo (p_c == 32)) rfl ?_
 refine WL.grp 3 [6, 7] 8 (boo ((p_c == 32) || (p_c == 9))) ?_ ?_
 ·rcases boolE (p_c == 32) with hb1 | hb1
  ·refine WL.n rfl rfl hb1<|WL.n rfl rfl hb1<|WL.w (R.pickT rfl hb1 rfl) ?_
   exact WL.e ⟨(orT hb1), ag, rfl⟩
  ·refine WL.y rfl rfl hb1<|WL.m (byt p_c) rfl<|WL.y rfl rfl hb1<|WL.w (R.eql8 (a := p_c) (b := 9) rfl rfl)<|WL.w (R.pickF rfl hb1 rfl) ?_
   exact WL.e ⟨(orF hb1), ag, rfl⟩
 ·intro us
  refine WL.a (boo ((p_c == 32) || (p_c == 9))) rfl<|WL.e ?_
  obtain rfl := oi h
  refine WP.ret (Out.one rfl S rfl ?_)
  exact rfl
theorem ref01_Trim_ok {w0 : World} {H0 : Hp} (hw : Holds w0 H0) (hG : Tryz.Gl w0) (p_s : Str) {r : Str} (h : ref01_Trim p_s = some r) :
  Con Tryz.prog 122 [(str p_s)] w0 H0 (fun H' v => v = (str r)) := by
 refine Con.mk (N := 30) Tryz.func122 rfl rfl (by kernel_rfl) rfl ?_
 have S := St.start hw
 refine WP.s<|WP.g<|WL.a (str []) rfl<|WL.e<|WP.s ?_
 obtain ⟨s_5, hr11, h⟩ := bindE h
 refine WP.cut (fun f w => ∃ (H4 : Hp), f 0 = (str s_5) ∧ St w0 H0 w H4 []) ?_ ?_
 ·refine WP.block ?_
  refine WP.loopM (ref01_Trim_L0) (fun s f w => match s with | s_2 => ∃ (H1 : Hp), f 0 = (str s_2) ∧ St w0 H0 w H1 []) p_s s_5 hr11 ?_ ?_
  ·exact ⟨H0, rfl, S⟩
  ·intro s_2 f w hI y7 hy8 hy9
   obtain ⟨H1, h3, S⟩ := hI
   refine WP.s<|WP.s<|WP.g<|WL.m (str s_2) h3<|WL.w (R.lenS (a := s_2) rfl Tryz.underlying9)<|WL.w (R.gtr rfl rfl)<|WL.m (boo (decide (0 < (s_2.length : Int)))) rfl ?_
   obtain ⟨b20, hg13, hy8⟩ := bindE hy8
   refine WL.grpw 4 [7, 8, 9] 10 (boo b20) (fun w => ∃ H' : Hp, H1.le H' ∧ St w0 H0 w H' []) ?_ ?_
   ·rcases boolE (decide (0 < (s_2.length : Int))) with hb12 | hb12
    ·replace hg13 := condT hg13 hb12
     refine WL.y rfl rfl hb12<|WL.m (str s_2) h3<|WL.y rfl rfl hb12 ?_
     obtain ⟨c14, hc14, hg13⟩ := bindE hg13
     refine WL.w (R.idxS rfl rfl Tryz.underlying9 hc14)<|WL.y rfl rfl hb12 ?_
     obtain ⟨r15, hr15, hg13⟩ := bindE hg13
     refine W.call S rfl (ref01_blank_ok S.holds (hG.post S.post) c14 hr15) ?_
     rintro v16 w17 H18 hle19 S rfl
     refine WL.w (R.pickT rfl hb12 rfl) ?_
     exact WL.e ⟨(congrArg boo (oi hg13)), ag, ⟨H18, hle19, S⟩⟩
    ·replace hg13 := condF hg13 hb12
     refine WL.n rfl rfl hb12<|WL.n rfl rfl hb12<|WL.n rfl rfl hb12<|WL.w (R.pickF rfl hb12 rfl) ?_
     exact WL.e ⟨(congrArg boo (oi hg13)), ag, ⟨H1, (Hp.le.refl _), S⟩⟩
   ·intro us w22 ⟨H21, hle23, S⟩
    refine WL.e ?_
    rcases condE hy8 with ⟨hc24, hy8⟩ | ⟨hc24, hy8⟩
    ·refine WP.condT rfl hc24<|WP.skip<|WP.block<|WP.g<|WL.m (str s_2) h3 ?_
     obtain ⟨s25, hs25, hy8⟩ := bindE hy8
     refine WL.w (R.subSlo rfl rfl Tryz.underlying9 hs25)<|WL.a (str s25) rfl<|WL.e ?_
     obtain rfl := oi hy8
     exact ⟨rfl, ⟨H21, rfl, S⟩⟩
    ·refine WP.condF rfl hc24<|WP.exit ?_
     obtain rfl := oi hy8
     obtain rfl := hy9
     exact ⟨H21, h3, S⟩
 ·rintro f w ⟨H4, h6, S⟩
  refine WP.s ?_
  obtain ⟨s_30, hr36, h⟩ := bindE h
  refine WP.cut (fun f w => ∃ (H29 : Hp), f 0 = (str s_30) ∧ St w0 H0 w H29 []) ?_ ?_
  ·refine WP.block ?_
   refine WP.loopM (ref01_Trim_L1) (fun s f w => match s with | s_27 => ∃ (H26 : Hp), f 0 = (str s_27) ∧ St w0 H0 w H26 []) s_5 s_30 hr36 ?_ ?_
   ·exact ⟨H4, h6, S⟩
   ·intro s_27 f w hI y32 hy33 hy34
    obtain ⟨H26, h28, S⟩ := hI
    refine WP.s<|WP.s<|WP.g<|WL.m (str s_27) h28<|WL.w (R.lenS (a := s_27) rfl Tryz.underlying9)<|WL.w (R.gtr rfl rfl)<|WL.m (boo (decide (0 < (s_27.length : Int)))) rfl ?_
    obtain ⟨b45, hg38, hy33⟩ := bindE hy33
    refine WL.grpw 7 [17, 18, 19, 20, 21, 22] 23 (boo b45) (fun w => ∃ H' : Hp, H26.le H' ∧ St w0 H0 w H' []) ?_ ?_
    ·rcases boolE (decide (0 < (s_27.length : Int))) with hb37 | hb37
     ·replace hg38 := condT hg38 hb37
      refine WL.y rfl rfl hb37<|WL.m (str s_27) h28<|WL.y rfl rfl hb37<|WL.m (str s_27) h28<|WL.y rfl rfl hb37<|WL.w (R.lenS (a := s_27) rfl Tryz.underlying9)<|WL.y rfl rfl hb37<|WL.w (R.sub rfl rfl)<|WL.y rfl rfl hb37 ?_
      obtain ⟨c39, hc39, hg38⟩ := bindE hg38
      refine WL.w (R.idxS rfl rfl Tryz.underlying9 hc39)<|WL.y rfl rfl hb37 ?_
      obtain ⟨r40, hr40, hg38⟩ := bindE hg38
      refine W.call S rfl (ref01_blank_ok S.holds (hG.post S.post) c39 hr40) ?_
      rintro v41 w42 H43 hle44 S rfl
      refine WL.w (R.pickT rfl hb37 rfl) ?_
      exact WL.e ⟨(congrArg boo (oi hg38)), ag, ⟨H43, hle44, S⟩⟩
     ·replace hg38 := condF hg38 hb37
      refine WL.n rfl rfl hb37<|WL.n rfl rfl hb37<|WL.n rfl rfl hb37<|WL.n rfl rfl hb37<|WL.n rfl rfl hb37<|WL.n rfl rfl hb37<|WL.w (R.pickF rfl hb37 rfl) ?_
      exact WL.e ⟨(congrArg boo (oi hg38)), ag, ⟨H26, (Hp.le.refl _), S⟩⟩
    ·intro us w47 ⟨H46, hle48, S⟩
     refine WL.e ?_
     rcases condE hy33 with ⟨hc49, hy33⟩ | ⟨hc49, hy33⟩
     ·refine WP.condT rfl hc49<|WP.skip<|WP.block<|WP.g<|WL.m (str s_27) h28<|WL.m (str s_27) h28<|WL.w (R.lenS (a := s_27) rfl Tryz.underlying9)<|WL.w (R.sub rfl rfl) ?_
      obtain ⟨s50, hs50, hy33⟩ := bindE hy33
      refine WL.w (R.subShi rfl rfl Tryz.underlying9 hs50)<|WL.a (str s50) rfl<|WL.e ?_
      obtain rfl := oi hy33
      exact ⟨rfl, ⟨H46, rfl, S⟩⟩
     ·refine WP.condF rfl hc49<|WP.exit ?_
      obtain rfl := oi hy33
      obtain rfl := hy34
      exact ⟨H46, h28, S⟩
  ·rintro f w ⟨H29, h31, S⟩
   refine WP.s<|WP.g<|WL.m (str s_30) h31<|WL.a (str s_30) rfl<|WL.e ?_
   obtain rfl := oi h
   refine WP.ret (Out.one rfl S rfl ?_)
   exact rfl
theorem ref01_Split_ok {w0 : World} {H0 : Hp} (hw : Holds w0 H0) (hG : Tryz.Gl w0) (p_value : Str) {r : (List Str)} (h : ref01_Split p_value = some r) :
  Con Tryz.prog 104 [(str p_value)] w0 H0 (fun H' v => Sl (α := Str) H' v r) := by
 refine Con.mk (N := 32) Tryz.func104 rfl rfl (by kernel_rfl) rfl ?_
 have S := St.start hw
 refine WP.s<|WP.g<|WL.a (.slice none 0 0) rfl<|WL.e<|WP.s<|WP.g<|WL.a (.slice none 0 0) rfl<|WL.e<|WP.s<|WP.g<|WL.m (str p_value) rfl ?_
 obtain ⟨r1, hr1, h⟩ := bindE h
 refine W.call S rfl (ref01_Cut_ok S.holds (hG.post S.post) p_value 44 hr1) ?_
 rintro v2 w3 H4 hle5 S R6
 refine WL.a (v2) rfl<|WL.e<|WP.s<|WP.s<|WP.g<|WL.a (int 0) rfl<|WL.e ?_
 have S := S.addNil 9 1
 obtain ⟨out_16, hr24, h⟩ := bindE h
 refine WP.cut (fun f w => ∃ (H15 : Hp) (v17 : Value), f 3 = v17 ∧ Sl (α := Str) H15 v17 out_16 ∧ St w0 H0 w H15 [.row v17 9 1 out_16.length]) ?_ ?_
 ·refine WP.block ?_
  refine WP.loopM (ref01_Split_L0 r1) (fun s f w => match s with | (out_8, i_13) => ∃ (H7 : Hp) (v9 : Value), f 3 = v9 ∧ f 4 = v2 ∧ f 5 = (int i_13) ∧ Sl (α := Str) H7 v9 out_8 ∧ Sl (α := Str) H7 v2 r1 ∧ St w0 H0 w H7 [.row v9 9 1 out_8.length]) (([] : List Str), 0) out_16 hr24 ?_ ?_
  ·exact ⟨H4, .slice none 0 0, rfl, rfl, rfl, Sl.nil, R6, S⟩
  ·intro s f w hI y20 hy21 hy22
   obtain ⟨out_8, i_13⟩ := s
   obtain ⟨H7, v9, h11, h12, h14, R10, R6, S⟩ := hI
   refine WP.s<|WP.s<|WP.g<|WL.m (int i_13) h14<|WL.m (v2) h12<|WL.w (R.lenL (α := Str) (xs := r1) (H := H7) R6 rfl Tryz.underlying23)<|WL.w (R.lss rfl rfl)<|WL.m (boo (decide (i_13 < (r1.length : Int)))) rfl ?_
   refine WL.grp 4 [14, 15, 16] 17 (boo ((decide (i_13 < (r1.length : Int))) && (decide ((out_8.length : Int) < 64)))) ?_ ?_
   ·rcases boolE (decide (i_13 < (r1.length : Int))) with hb25 | hb25
    ·refine WL.y rfl rfl hb25<|WL.m (v9) h11<|WL.y rfl rfl hb25<|WL.w (R.lenL (α := Str) (xs := out_8) (H := H7) R10 rfl Tryz.underlying23)<|WL.y rfl rfl hb25<|WL.w (R.lss rfl rfl)<|WL.w (R.pickT rfl hb25 rfl) ?_
     exact WL.e ⟨(andT hb25), ag, rfl⟩
    ·refine WL.n rfl rfl hb25<|WL.n rfl rfl hb25<|WL.n rfl rfl hb25<|WL.w (R.pickF rfl hb25 rfl) ?_
     exact WL.e ⟨(andF hb25), ag, rfl⟩
   ·intro us
    refine WL.e ?_
    rcases condE hy21 with ⟨hc27, hy21⟩ | ⟨hc27, hy21⟩
    ·refine WP.condT rfl hc27<|WP.skip<|WP.s<|WP.block<|WP.s<|WP.g<|WL.m (v2) h12<|WL.m (int i_13) h14 ?_
     obtain ⟨x28, hx28, hy21⟩ := bindE hy21
     refine W.idx (α := Str) R6 rfl rfl el23 hx28 ?_
     rintro a29 _ hA30 rfl
     refine WL.w (R.loadH (v := str x28) S rfl hA30 lay9 rfl) ?_
     obtain ⟨r31, hr31, hy21⟩ := bindE hy21
     refine W.call S rfl (ref01_Trim_ok S.holds (hG.post S.post) x28 hr31) ?_
     rintro v32 w33 H34 hle35 S rfl
     have R10 := Sl.mono R10 hle35
     have R6 := Sl.mono R6 hle35
     refine WL.a (str r31) rfl<|WL.e<|WP.s<|WP.g<|WL.m (str r31) rfl<|WL.w (R.neqS (a := r31) (b := []) rfl rfl)<|WL.e ?_
     rcases condE hy21 with ⟨hc36, hy21⟩ | ⟨hc36, hy21⟩
     ·refine WP.condT rfl hc36<|WP.g<|WL.m (v9) h11<|WL.m (str r31) rfl<|W.bslice (α := Str) [(str r31)] ([r31] : List Str) S el23 rfl rfl rfl (by decide) (Go.Eng.encS ⟨rfl, rfl⟩ enc0) ?_
      intro u37 w38 H39 hle40 R41 S
      have R10 := Sl.mono R10 hle40
      have R6 := Sl.mono R6 hle40
      obtain ⟨l42, hl42, hy21⟩ := bindE hy21
      refine W.app (α := Str) (i := 1) S el23 rfl rfl rfl R10 R41 hl42 ?_
      intro v43 w44 H45 hle46 R47 S
      have R10 := Sl.mono R10 hle46
      have R6 := Sl.mono R6 hle46
      refine WL.a (v43) rfl<|WL.e<|WP.g<|WL.m (int i_13) h14<|WL.w (R.add rfl rfl)<|WL.a (int (wr (i_13 + 1))) rfl<|WL.e ?_
      obtain rfl := oi hy21
      exact ⟨rfl, ⟨H45, v43, rfl, h12, rfl, R47, R6, (S.drop _ (.cons _ (.cons_cons _ .slnil)))⟩⟩
     ·refine WP.condF rfl hc36<|WP.skip<|WP.g<|WL.m (int i_13) h14<|WL.w (R.add rfl rfl)<|WL.a (int (wr (i_13 + 1))) rfl<|WL.e ?_
      obtain rfl := oi hy21
      exact ⟨rfl, ⟨H34, v9, h11, h12, rfl, R10, R6, S⟩⟩
    ·refine WP.condF rfl hc27<|WP.exit ?_
     obtain rfl := oi hy21
     obtain rfl := hy22
     exact ⟨H7, v9, h11, R10, S⟩
 ·rintro f w ⟨H15, v17, h19, R18, S⟩
  refine WP.s<|WP.g<|WL.m (v17) h19<|WL.a (v17) rfl<|WL.e ?_
  obtain rfl := oi h
  refine WP.ret (Out.one rfl S rfl ?_)
  exact R18
theorem ref01_All_ok {w0 : World} {H0 : Hp} (hw : Holds w0 H0) (hG : Tryz.Gl w0) (p_l : (List GField)) (p_name : Str) {vp_l : Value} (Rp_l : Sl (α := GField) H0 vp_l p_l) {r : (List Str)} (h : ref01_All p_l p_name = some r) :
  Con Tryz.prog 57 [vp_l, (str p_name)] w0 H0 (fun H' v => Sl (α := Str) H' v r) := by
 refine Con.mk (N := 43) Tryz.func57 rfl rfl (by kernel_rfl) rfl ?_
 have S := St.start hw
 refine WP.s<|WP.g<|WL.a (.slice none 0 0) rfl<|WL.e<|WP.s<|WP.g<|WL.a (.slice none 0 0) rfl<|WL.e<|WP.s<|WP.g<|WL.m (vp_l) rfl<|WL.m (str p_name) rfl ?_
 obtain ⟨r1, hr1, h⟩ := bindE h
 refine W.call S rfl (ref01_Get_ok S.holds (hG.post S.post) p_l p_name Rp_l hr1) ?_
 rintro v2 w3 H4 hle5 S R6
 refine WL.a (v2) rfl<|WL.e<|WP.s<|WP.s<|WP.g<|WL.a (int 0) rfl<|WL.e ?_
 have S := S.addNil 9 1
 obtain ⟨out_16, hr24, h⟩ := bindE h
 refine WP.cut (fun f w => ∃ (H15 : Hp) (v17 : Value), f 5 = v17 ∧ Sl (α := Str) H15 v17 out_16 ∧ St w0 H0 w H15 [.row v17 9 1 out_16.length]) ?_ ?_
 ·refine WP.block ?_
  refine WP.loopM (ref01_All_L1 r1) (fun s f w => match s with | (out_8, i_13) => ∃ (H7 : Hp) (v9 : Value), f 5 = v9 ∧ f 6 = v2 ∧ f 7 = (int i_13) ∧ Sl (α := Str) H7 v9 out_8 ∧ Sl (α := Str) H7 v2 r1 ∧ St w0 H0 w H7 [.row v9 9 1 out_8.length]) (([] : List Str), 0) out_16 hr24 ?_ ?_
  ·exact ⟨H4, .slice none 0 0, rfl, rfl, rfl, Sl.nil, R6, S⟩
  ·intro s f w hI y20 hy21 hy22
   obtain ⟨out_8, i_13⟩ := s
   obtain ⟨H7, v9, h11, h12, h14, R10, R6, S⟩ := hI
   refine WP.s<|WP.s<|WP.g<|WL.m (int i_13) h14<|WL.m (v2) h12<|WL.w (R.lenL (α := Str) (xs := r1) (H := H7) R6 rfl Tryz.underlying23)<|WL.w (R.lss rfl rfl)<|WL.e ?_
   rcases condE hy21 with ⟨hc25, hy21⟩ | ⟨hc25, hy21⟩
   ·refine WP.condT rfl hc25<|WP.skip<|WP.s<|WP.block<|WP.s<|WP.g<|WL.m (v2) h12<|WL.m (int i_13) h14 ?_
    obtain ⟨x26, hx26, hy21⟩ := bindE hy21
    refine W.idx (α := Str) R6 rfl rfl el23 hx26 ?_
    rintro a27 _ hA28 rfl
    refine WL.w (R.loadH (v := str x26) S rfl hA28 lay9 rfl) ?_
    obtain ⟨r29, hr29, hy21⟩ := bindE hy21
    refine W.call S rfl (ref01_Split_ok S.holds (hG.post S.post) x26 hr29) ?_
    rintro v30 w31 H32 hle33 S R34
    have R10 := Sl.mono R10 hle33
    have R6 := Sl.mono R6 hle33
    refine WL.a (v30) rfl<|WL.e<|WP.s<|WP.g<|WL.a (int 0) rfl<|WL.e ?_
    obtain ⟨out_46, hr56, hy21⟩ := bindE hy21
    refine WP.cut (fun f w => ∃ (H45 : Hp) (v47 : Value), f 5 = v47 ∧ f 6 = v2 ∧ f 7 = (int i_13) ∧ Sl (α := Str) H45 v47 out_46 ∧ Sl (α := Str) H45 v2 r1 ∧ St w0 H0 w H45 [.row v47 9 1 out_46.length]) ?_ ?_
    ·refine WP.block ?_
     refine WP.loopM (ref01_All_L0 r29) (fun s f w => match s with | (out_36, k_43) => ∃ (H35 : Hp) (v37 : Value), f 5 = v37 ∧ f 6 = v2 ∧ f 7 = (int i_13) ∧ f 8 = v30 ∧ f 9 = (int k_43) ∧ Sl (α := Str) H35 v37 out_36 ∧ Sl (α := Str) H35 v2 r1 ∧ Sl (α := Str) H35 v30 r29 ∧ St w0 H0 w H35 [.row v37 9 1 out_36.length]) (out_8, 0) out_46 hr56 ?_ ?_
     ·exact ⟨H32, v9, h11, h12, h14, rfl, rfl, R10, R6, R34, S⟩
     ·intro s f w hI y52 hy53 hy54
      obtain ⟨out_36, k_43⟩ := s
      obtain ⟨H35, v37, h39, h40, h41, h42, h44, R38, R6, R34, S⟩ := hI
      refine WP.s<|WP.s<|WP.g<|WL.m (int k_43) h44<|WL.m (v30) h42<|WL.w (R.lenL (α := Str) (xs := r29) (H := H35) R34 rfl Tryz.underlying23)<|WL.w (R.lss rfl rfl)<|WL.m (boo (decide (k_43 < (r29.length : Int)))) rfl ?_
      refine WL.grp 4 [29, 30, 31] 32 (boo ((decide (k_43 < (r29.length : Int))) && (decide ((out_36.length : Int) < 64)))) ?_ ?_
      ·rcases boolE (decide (k_43 < (r29.length : Int))) with hb57 | hb57
       ·refine WL.y rfl rfl hb57<|WL.m (v37) h39<|WL.y rfl rfl hb57<|WL.w (R.lenL (α := Str) (xs := out_36) (H := H35) R38 rfl Tryz.underlying23)<|WL.y rfl rfl hb57<|WL.w (R.lss rfl rfl)<|WL.w (R.pickT rfl hb57 rfl) ?_
        exact WL.e ⟨(andT hb57), ag, rfl⟩
       ·refine WL.n rfl rfl hb57<|WL.n rfl rfl hb57<|WL.n rfl rfl hb57<|WL.w (R.pickF rfl hb57 rfl) ?_
        exact WL.e ⟨(andF hb57), ag, rfl⟩
      ·intro us
       refine WL.e ?_
       rcases condE hy53 with ⟨hc59, hy53⟩ | ⟨hc59, hy53⟩
       ·refine WP.condT rfl hc59<|WP.skip<|WP.s<|WP.block<|WP.g<|WL.m (v37) h39<|WL.m (v30) h42<|WL.m (int k_43) h44 ?_
        obtain ⟨x60, hx60, hy53⟩ := bindE hy53
        refine W.idx (α := Str) R34 rfl rfl el23 hx60 ?_
        rintro a61 _ hA62 rfl
        refine WL.w (R.loadH (v := str x60) S rfl hA62 lay9 rfl)<|W.bslice (α := Str) [(str x60)] ([x60] : List Str) S el23 rfl rfl rfl (by decide) (Go.Eng.encS ⟨rfl, rfl⟩ enc0) ?_
        intro u63 w64 H65 hle66 R67 S
        have R38 := Sl.mono R38 hle66
        have R6 := Sl.mono R6 hle66
        have R34 := Sl.mono R34 hle66
        obtain ⟨l68, hl68, hy53⟩ := bindE hy53
        refine W.app (α := Str) (i := 1) S el23 rfl rfl rfl R38 R67 hl68 ?_
        intro v69 w70 H71 hle72 R73 S
        have R38 := Sl.mono R38 hle72
        have R6 := Sl.mono R6 hle72
        have R34 := Sl.mono R34 hle72
        refine WL.a (v69) rfl<|WL.e<|WP.g<|WL.m (int k_43) h44<|WL.w (R.add rfl rfl)<|WL.a (int (wr (k_43 + 1))) rfl<|WL.e ?_
        obtain rfl := oi hy53
        exact ⟨rfl, ⟨H71, v69, rfl, h40, h41, h42, rfl, R73, R6, R34, (S.drop _ (.cons _ (.cons_cons _ .slnil)))⟩⟩
       ·refine WP.condF rfl hc59<|WP.exit ?_
        obtain rfl := oi hy53
        obtain rfl := hy54
        exact ⟨H35, v37, h39, h40, h41, R38, R6, S⟩
    ·rintro f w ⟨H45, v47, h49, h50, h51, R48, R6, S⟩
     refine WP.g<|WL.m (int i_13) h51<|WL.w (R.add rfl rfl)<|WL.a (int (wr (i_13 + 1))) rfl<|WL.e ?_
     obtain rfl := oi hy21
     exact ⟨rfl, ⟨H45, v47, h49, h50, rfl, R48, R6, S⟩⟩
   ·refine WP.condF rfl hc25<|WP.exit ?_
    obtain rfl := oi hy21
    obtain rfl := hy22
    exact ⟨H7, v9, h11, R10, S⟩
 ·rintro f w ⟨H15, v17, h19, R18, S⟩
  refine WP.s<|WP.g<|WL.m (v17) h19<|WL.a (v17) rfl<|WL.e ?_
  obtain rfl := oi h
  refine WP.ret (Out.one rfl S rfl ?_)
  exact R18
theorem ref19_among_ok {w0 : World} {H0 : Hp} (hw : Holds w0 H0) (hG : Tryz.Gl w0) (p_name : Str) (p_l : (List Str)) {vp_l : Value} (Rp_l : Sl (α := Str) H0 vp_l p_l) {r : Bool} (h : ref19_among p_name p_l = some r) :
  Con Tryz.prog 58 [(str p_name), vp_l] w0 H0 (fun H' v => v = (boo r)) := by
 refine Con.mk (N := 18) Tryz.func58 rfl rfl (by kernel_rfl) rfl ?_
 have S := St.start hw
 refine WP.s<|WP.g<|WL.a (boo false) rfl<|WL.e<|WP.s<|WP.s<|WP.g<|WL.a (int 0) rfl<|WL.e ?_
 obtain ⟨r10, hr11, h⟩ := bindE h
 refine WP.cut (fun f w => match r10 with | .inl _ => ∃ (H6 : Hp), St w0 H0 w H6 [] | .inr _ => False) ?_ ?_
 ·refine WP.block ?_
  refine WP.loopM (ref19_among_L0 p_name p_l) (fun s f w => match s with | i_4 => ∃ (H1 : Hp), f 0 = (str p_name) ∧ f 1 = vp_l ∧ f 5 = (int i_4) ∧ Sl (α := Str) H1 vp_l p_l ∧ St w0 H0 w H1 []) 0 r10 hr11 ?_ ?_
  ·exact ⟨H0, rfl, rfl, rfl, Rp_l, S⟩
  ·intro i_4 f w hI y7 hy8 hy9
   obtain ⟨H1, h2, h3, h5, Rp_l, S⟩ := hI
   refine WP.s<|WP.s<|WP.g<|WL.m (int i_4) h5<|WL.m (vp_l) h3<|WL.w (R.lenL (α := Str) (xs := p_l) (H := H1) Rp_l rfl Tryz.underlying23)<|WL.w (R.lss rfl rfl)<|WL.e ?_
   rcases condE hy8 with ⟨hc12, hy8⟩ | ⟨hc12, hy8⟩
   ·refine WP.condT rfl hc12<|WP.skip<|WP.s<|WP.block<|WP.s<|WP.g<|WL.m (str p_name) h2<|WL.m (vp_l) h3<|WL.m (int i_4) h5 ?_
    obtain ⟨x13, hx13, hy8⟩ := bindE hy8
    refine W.idx (α := Str) Rp_l rfl rfl el23 hx13 ?_
    rintro a14 _ hA15 rfl
    refine WL.w (R.loadH (v := str x13) S rfl hA15 lay9 rfl) ?_
    obtain ⟨r16, hr16, hy8⟩ := bindE hy8
    refine W.call S rfl (ref01_Fold_ok S.holds (hG.post S.post) p_name x13 hr16) ?_
    rintro v17 w18 H19 hle20 S rfl
    have Rp_l := Sl.mono Rp_l hle20
    refine WL.e ?_
    rcases condE hy8 with ⟨hc21, hy8⟩ | ⟨hc21, hy8⟩
    ·refine WP.condT rfl hc21<|WP.s<|WP.g<|WL.a (boo true) rfl<|WL.e ?_
     obtain rfl := oi hy8
     obtain rfl := hy9
     obtain rfl := oi h
     refine WP.ret (Out.one rfl S rfl ?_)
     exact rfl
    ·refine WP.condF rfl hc21<|WP.skip<|WP.g<|WL.m (int i_4) h5<|WL.w (R.add rfl rfl)<|WL.a (int (wr (i_4 + 1))) rfl<|WL.e ?_
     obtain rfl := oi hy8
     exact ⟨rfl, ⟨H19, h2, h3, rfl, Rp_l, S⟩⟩
   ·refine WP.condF rfl hc12<|WP.exit ?_
    obtain rfl := oi hy8
    obtain rfl := hy9
    exact ⟨H1, S⟩
 ·intro f w hM
  rcases r10 with _ | e
  ·obtain ⟨H6, S⟩ := hM
   refine WP.s<|WP.g<|WL.a (boo false) rfl<|WL.e ?_
   obtain rfl := oi h
   refine WP.ret (Out.one rfl S rfl ?_)
   exact rfl
  ·exact hM.elim
end Go.Proofs
