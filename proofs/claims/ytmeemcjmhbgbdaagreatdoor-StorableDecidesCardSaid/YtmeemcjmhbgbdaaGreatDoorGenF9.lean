/- A part of the proof of laws of the seat: written by program over the translation. -/
import Derived.Test.YtmeemcjmhbgbdaaGreatDoorGenF8
namespace Go.Proofs
open Go.Eng Go.Eng.Pure
set_option linter.unusedVariables false
set_option maxRecDepth 10000 in
set_option maxHeartbeats 4000000 in
theorem ref19_Storable_ok {w0 : World} {H0 : Hp} (hw : Holds w0 H0) (p_ppend : GRequest) (p_x1 : GResponse) {vp_ppend3 : Value} {vp_x13 : Value} (Rp_ppend3 : Sl (α := GField) H0 vp_ppend3 p_ppend.fFields) (Rp_x13 : Sl (α := GField) H0 vp_x13 p_x1.fFields) {r : Bool} (h : ref19_Storable p_ppend p_x1 = some r) :
    Con Tryz.prog 9 [(agg [(str p_ppend.fMethod), (str p_ppend.fTarget), (int p_ppend.fMinor), vp_ppend3, (str p_ppend.fBody)]), (agg [(int p_x1.fMinor), (int p_x1.fStatus), (str p_x1.fReason), vp_x13, (str p_x1.fBody)])] w0 H0 (fun H' v => v = (boo r)) := by
  refine Con.mk (N := 77) Tryz.func9 rfl rfl (by kernel_rfl) rfl ?_
  have S := St.start hw
  refine WP.seq ?_
  refine WP.region ?_
  refine W.box [(str p_ppend.fMethod), (str p_ppend.fTarget), (int p_ppend.fMinor), vp_ppend3, (str p_ppend.fBody)] S rfl rfl ?_
  intro b1 w2 S
  refine W.box [(int p_x1.fMinor), (int p_x1.fStatus), (str p_x1.fReason), vp_x13, (str p_x1.fBody)] S rfl rfl ?_
  intro b3 w4 S
  refine WL.valw (R.as (v := (boo false)) rfl) ?_
  refine WL.nil ?_
  refine WP.seq ?_
  obtain ⟨r5, hr5, h⟩ := bindE h
  obtain ⟨r10, hr10, h⟩ := bindE h
  refine WP.cut (fun f w => ∃ (H21 : Hp) (b25 : Nat) (b27 : Nat), f 2 = (ptr b1 0) ∧ f 3 = (ptr b3 0) ∧ f 5 = (ptr b25 0) ∧ f 6 = (ptr b27 0) ∧ Sl (α := GField) H21 vp_x13 p_x1.fFields ∧ Sl (α := GField) H21 vp_ppend3 p_ppend.fFields ∧ St w0 H0 w H21 [.box b27 36 [(boo r10.fNoStore), (boo r10.fNoCache), (boo r10.fMustRevalidate), (boo r10.fProxyRevalidate), (boo r10.fPrivate), (boo r10.fPublic), (boo r10.fOnlyIfCached), (int r10.fMaxAge), (int r10.fSMaxAge), (int r10.fMinFresh), (int r10.fMaxStale)], .box b25 36 [(boo r5.fNoStore), (boo r5.fNoCache), (boo r5.fMustRevalidate), (boo r5.fProxyRevalidate), (boo r5.fPrivate), (boo r5.fPublic), (boo r5.fOnlyIfCached), (int r5.fMaxAge), (int r5.fSMaxAge), (int r5.fMinFresh), (int r5.fMaxStale)], .box b3 26 [(int p_x1.fMinor), (int p_x1.fStatus), (str p_x1.fReason), vp_x13, (str p_x1.fBody)], .box b1 24 [(str p_ppend.fMethod), (str p_ppend.fTarget), (int p_ppend.fMinor), vp_ppend3, (str p_ppend.fBody)]]) ?_ ?_
  · refine WP.drawC (Cl w0 H0 H0 [.box b3 26 [(int p_x1.fMinor), (int p_x1.fStatus), (str p_x1.fReason), vp_x13, (str p_x1.fBody)], .box b1 24 [(str p_ppend.fMethod), (str p_ppend.fTarget), (int p_ppend.fMinor), vp_ppend3, (str p_ppend.fBody)]]) (by kernel_rfl) 10 rfl #[false, false, false, false, false, false, false, false, false, false] rfl ?_
    have S := S.drew
    refine WC.take (i := 0) #[true, false, false, false, false, false, false, false, false, false] rfl (by kernel_rfl) (by kernel_rfl) (by kernel_rfl) rfl (fun _ _ => (R.fieldB rfl fld24_3)) ?_
    refine WC.take (i := 1) #[true, true, false, false, false, false, false, false, false, false] rfl (by kernel_rfl) (by kernel_rfl) (by kernel_rfl) rfl (fun w hw => by obtain ⟨_, hq, S⟩ := hw; exact (R.loadB (i := 1) (v := vp_ppend3) S rfl rfl lay22 rfl)) ?_
    refine WC.take (i := 3) #[true, true, false, true, false, false, false, false, false, false] rfl (by kernel_rfl) (by kernel_rfl) (by kernel_rfl) rfl (fun _ _ => (R.fieldB rfl fld26_3)) ?_
    refine WC.take (i := 4) #[true, true, false, true, true, false, false, false, false, false] rfl (by kernel_rfl) (by kernel_rfl) (by kernel_rfl) rfl (fun w hw => by obtain ⟨_, hq, S⟩ := hw; exact (R.loadB (i := 0) (v := vp_x13) S rfl rfl lay22 rfl)) ?_
    refine WC.next (rs := [2, 6, 7]) ⟨H0, (Hp.le.refl _), S.drop _ (.cons_cons _ (.cons_cons _ .slnil))⟩ (by kernel_rfl) (List.cons_ne_nil _ _) (allS ?_ (allS ?_ (all1 ?_)))
    · refine Nxt.mk (o := _) #[true, true, true, true, true, false, false, false, false, false] rfl rfl ?_
      refine W.call S rfl (ref19_RequestControl_ok S.holds p_ppend.fFields Rp_ppend3 hr5) ?_
      rintro v30 w31 H32 hle33 S rfl
      have Rp_ppend3 := Sl.mono Rp_ppend3 hle33
      have Rp_x13 := Sl.mono Rp_x13 hle33
      refine WL.nil ?_
      refine WC.next (rs := [5, 6, 7]) ⟨H32, hle33, S.drop _ (.cons_cons _ (.cons_cons _ .slnil))⟩ (by kernel_rfl) (List.cons_ne_nil _ _) (allS ?_ (allS ?_ (all1 ?_)))
      · refine Nxt.mk (o := _) #[true, true, true, true, true, true, false, false, false, false] rfl rfl ?_
        refine W.call S rfl (ref19_ResponseControl_ok S.holds p_x1.fFields Rp_x13 hr10) ?_
        rintro v34 w35 H36 hle37 S rfl
        have Rp_ppend3 := Sl.mono Rp_ppend3 hle37
        have Rp_x13 := Sl.mono Rp_x13 hle37
        refine WL.nil ?_
        refine WC.next (rs := [6, 7]) ⟨H36, (hle33.trans hle37), S.drop _ (.cons_cons _ (.cons_cons _ .slnil))⟩ (by kernel_rfl) (List.cons_ne_nil _ _) (allS ?_ (all1 ?_))
        · refine Nxt.mk (o := _) #[true, true, true, true, true, true, true, false, false, false] rfl rfl ?_
          refine W.alloc [(boo false), (boo false), (boo false), (boo false), (boo false), (boo false), (boo false), (int 0), (int 0), (int 0), (int 0)] S zer36 ?_
          intro b38 w39 S
          refine WL.nil ?_
          refine WC.next (rs := [7]) ⟨H36, (hle33.trans hle37), S.drop _ (.cons _ (.cons_cons _ (.cons_cons _ .slnil)))⟩ (by kernel_rfl) (List.cons_ne_nil _ _) (all1 ?_)
          refine Nxt.mk (o := _) #[true, true, true, true, true, true, true, true, false, false] rfl rfl ?_
          refine W.alloc [(boo false), (boo false), (boo false), (boo false), (boo false), (boo false), (boo false), (int 0), (int 0), (int 0), (int 0)] S zer36 ?_
          intro b40 w41 S
          refine WL.nil ?_
          refine WC.next (rs := [8]) ⟨H36, (hle33.trans hle37), S.drop _ (.cons _ (.cons _ (.cons_cons _ (.cons_cons _ .slnil))))⟩ (by kernel_rfl) (List.cons_ne_nil _ _) (all1 ?_)
          refine Nxt.mk (o := _) #[true, true, true, true, true, true, true, true, true, false] rfl rfl ?_
          refine W.store (i := 1) [(boo r5.fNoStore), (boo r5.fNoCache), (boo r5.fMustRevalidate), (boo r5.fProxyRevalidate), (boo r5.fPrivate), (boo r5.fPublic), (boo r5.fOnlyIfCached), (int r5.fMaxAge), (int r5.fSMaxAge), (int r5.fMinFresh), (int r5.fMaxStale)] S rfl rfl rfl lay36 rfl rfl (Nat.le_of_ble_eq_true rfl) rfl ?_
          intro w42 S
          refine WL.nil ?_
          refine WC.next (rs := [9]) ⟨H36, (hle33.trans hle37), S.drop _ (.cons _ (.cons _ (.cons_cons _ (.cons_cons _ .slnil))))⟩ (by kernel_rfl) (List.cons_ne_nil _ _) (all1 ?_)
          refine Nxt.mk (o := _) #[true, true, true, true, true, true, true, true, true, true] rfl rfl ?_
          refine W.store (i := 0) [(boo r10.fNoStore), (boo r10.fNoCache), (boo r10.fMustRevalidate), (boo r10.fProxyRevalidate), (boo r10.fPrivate), (boo r10.fPublic), (boo r10.fOnlyIfCached), (int r10.fMaxAge), (int r10.fSMaxAge), (int r10.fMinFresh), (int r10.fMaxStale)] S rfl rfl rfl lay36 rfl rfl (Nat.le_of_ble_eq_true rfl) rfl ?_
          intro w43 S
          refine WL.nil ?_
          refine WC.done ⟨H36, (hle33.trans hle37), S.drop _ (.cons _ (.cons _ (.cons_cons _ (.cons_cons _ .slnil))))⟩ (by kernel_rfl) ?_
          have S3 := S
          replace S3 := S3.front 3 rfl
          replace S3 := S3.front 3 rfl
          replace S3 := S3.front 3 rfl
          replace S3 := S3.front 3 rfl
          replace S3 : St w0 H0 _ H36 [.box b40 36 [(boo r10.fNoStore), (boo r10.fNoCache), (boo r10.fMustRevalidate), (boo r10.fProxyRevalidate), (boo r10.fPrivate), (boo r10.fPublic), (boo r10.fOnlyIfCached), (int r10.fMaxAge), (int r10.fSMaxAge), (int r10.fMinFresh), (int r10.fMaxStale)], .box b38 36 [(boo r5.fNoStore), (boo r5.fNoCache), (boo r5.fMustRevalidate), (boo r5.fProxyRevalidate), (boo r5.fPrivate), (boo r5.fPublic), (boo r5.fOnlyIfCached), (int r5.fMaxAge), (int r5.fSMaxAge), (int r5.fMinFresh), (int r5.fMaxStale)], .box b3 26 [(int p_x1.fMinor), (int p_x1.fStatus), (str p_x1.fReason), vp_x13, (str p_x1.fBody)], .box b1 24 [(str p_ppend.fMethod), (str p_ppend.fTarget), (int p_ppend.fMinor), vp_ppend3, (str p_ppend.fBody)]] := S3
          replace S3 : St w0 H0 _ H36 [.box b40 36 [(boo r10.fNoStore), (boo r10.fNoCache), (boo r10.fMustRevalidate), (boo r10.fProxyRevalidate), (boo r10.fPrivate), (boo r10.fPublic), (boo r10.fOnlyIfCached), (int r10.fMaxAge), (int r10.fSMaxAge), (int r10.fMinFresh), (int r10.fMaxStale)], .box b38 36 [(boo r5.fNoStore), (boo r5.fNoCache), (boo r5.fMustRevalidate), (boo r5.fProxyRevalidate), (boo r5.fPrivate), (boo r5.fPublic), (boo r5.fOnlyIfCached), (int r5.fMaxAge), (int r5.fSMaxAge), (int r5.fMinFresh), (int r5.fMaxStale)], .box b3 26 [(int p_x1.fMinor), (int p_x1.fStatus), (str p_x1.fReason), vp_x13, (str p_x1.fBody)], .box b1 24 [(str p_ppend.fMethod), (str p_ppend.fTarget), (int p_ppend.fMinor), vp_ppend3, (str p_ppend.fBody)]] := S3.drop _ (.cons_cons _ (.cons_cons _ (.cons_cons _ (.cons_cons _ .slnil))))
          exact ⟨H36, b38, b40, rfl, rfl, rfl, rfl, Rp_x13, Rp_ppend3, S3⟩
        · refine Nxt.mk (o := _) #[true, true, true, true, true, true, false, true, false, false] rfl rfl ?_
          refine W.alloc [(boo false), (boo false), (boo false), (boo false), (boo false), (boo false), (boo false), (int 0), (int 0), (int 0), (int 0)] S zer36 ?_
          intro b44 w45 S
          refine WL.nil ?_
          refine WC.next (rs := [6]) ⟨H36, (hle33.trans hle37), S.drop _ (.cons _ (.cons_cons _ (.cons_cons _ .slnil)))⟩ (by kernel_rfl) (List.cons_ne_nil _ _) (all1 ?_)
          refine Nxt.mk (o := _) #[true, true, true, true, true, true, true, true, false, false] rfl rfl ?_
          refine W.alloc [(boo false), (boo false), (boo false), (boo false), (boo false), (boo false), (boo false), (int 0), (int 0), (int 0), (int 0)] S zer36 ?_
          intro b46 w47 S
          refine WL.nil ?_
          refine WC.next (rs := [8]) ⟨H36, (hle33.trans hle37), S.drop _ (.cons _ (.cons _ (.cons_cons _ (.cons_cons _ .slnil))))⟩ (by kernel_rfl) (List.cons_ne_nil _ _) (all1 ?_)
          refine Nxt.mk (o := _) #[true, true, true, true, true, true, true, true, true, false] rfl rfl ?_
          refine W.store (i := 0) [(boo r5.fNoStore), (boo r5.fNoCache), (boo r5.fMustRevalidate), (boo r5.fProxyRevalidate), (boo r5.fPrivate), (boo r5.fPublic), (boo r5.fOnlyIfCached), (int r5.fMaxAge), (int r5.fSMaxAge), (int r5.fMinFresh), (int r5.fMaxStale)] S rfl rfl rfl lay36 rfl rfl (Nat.le_of_ble_eq_true rfl) rfl ?_
          intro w48 S
          refine WL.nil ?_
          refine WC.next (rs := [9]) ⟨H36, (hle33.trans hle37), S.drop _ (.cons _ (.cons _ (.cons_cons _ (.cons_cons _ .slnil))))⟩ (by kernel_rfl) (List.cons_ne_nil _ _) (all1 ?_)
          refine Nxt.mk (o := _) #[true, true, true, true, true, true, true, true, true, true] rfl rfl ?_
          refine W.store (i := 1) [(boo r10.fNoStore), (boo r10.fNoCache), (boo r10.fMustRevalidate), (boo r10.fProxyRevalidate), (boo r10.fPrivate), (boo r10.fPublic), (boo r10.fOnlyIfCached), (int r10.fMaxAge), (int r10.fSMaxAge), (int r10.fMinFresh), (int r10.fMaxStale)] S rfl rfl rfl lay36 rfl rfl (Nat.le_of_ble_eq_true rfl) rfl ?_
          intro w49 S
          refine WL.nil ?_
          refine WC.done ⟨H36, (hle33.trans hle37), S.drop _ (.cons _ (.cons _ (.cons_cons _ (.cons_cons _ .slnil))))⟩ (by kernel_rfl) ?_
          have S3 := S
          replace S3 := S3.front 3 rfl
          replace S3 := S3.front 3 rfl
          replace S3 := S3.front 2 rfl
          replace S3 := S3.front 3 rfl
          replace S3 : St w0 H0 _ H36 [.box b44 36 [(boo r10.fNoStore), (boo r10.fNoCache), (boo r10.fMustRevalidate), (boo r10.fProxyRevalidate), (boo r10.fPrivate), (boo r10.fPublic), (boo r10.fOnlyIfCached), (int r10.fMaxAge), (int r10.fSMaxAge), (int r10.fMinFresh), (int r10.fMaxStale)], .box b46 36 [(boo r5.fNoStore), (boo r5.fNoCache), (boo r5.fMustRevalidate), (boo r5.fProxyRevalidate), (boo r5.fPrivate), (boo r5.fPublic), (boo r5.fOnlyIfCached), (int r5.fMaxAge), (int r5.fSMaxAge), (int r5.fMinFresh), (int r5.fMaxStale)], .box b3 26 [(int p_x1.fMinor), (int p_x1.fStatus), (str p_x1.fReason), vp_x13, (str p_x1.fBody)], .box b1 24 [(str p_ppend.fMethod), (str p_ppend.fTarget), (int p_ppend.fMinor), vp_ppend3, (str p_ppend.fBody)]] := S3
          replace S3 : St w0 H0 _ H36 [.box b44 36 [(boo r10.fNoStore), (boo r10.fNoCache), (boo r10.fMustRevalidate), (boo r10.fProxyRevalidate), (boo r10.fPrivate), (boo r10.fPublic), (boo r10.fOnlyIfCached), (int r10.fMaxAge), (int r10.fSMaxAge), (int r10.fMinFresh), (int r10.fMaxStale)], .box b46 36 [(boo r5.fNoStore), (boo r5.fNoCache), (boo r5.fMustRevalidate), (boo r5.fProxyRevalidate), (boo r5.fPrivate), (boo r5.fPublic), (boo r5.fOnlyIfCached), (int r5.fMaxAge), (int r5.fSMaxAge), (int r5.fMinFresh), (int r5.fMaxStale)], .box b3 26 [(int p_x1.fMinor), (int p_x1.fStatus), (str p_x1.fReason), vp_x13, (str p_x1.fBody)], .box b1 24 [(str p_ppend.fMethod), (str p_ppend.fTarget), (int p_ppend.fMinor), vp_ppend3, (str p_ppend.fBody)]] := S3.drop _ (.cons_cons _ (.cons_cons _ (.cons_cons _ (.cons_cons _ .slnil))))
          exact ⟨H36, b46, b44, rfl, rfl, rfl, rfl, Rp_x13, Rp_ppend3, S3⟩
      · refine Nxt.mk (o := _) #[true, true, true, true, true, false, true, false, false, false] rfl rfl ?_
        refine W.alloc [(boo false), (boo false), (boo false), (boo false), (boo false), (boo false), (boo false), (int 0), (int 0), (int 0), (int 0)] S zer36 ?_
        intro b50 w51 S
        refine WL.nil ?_
        refine WC.next (rs := [5, 7]) ⟨H32, hle33, S.drop _ (.cons _ (.cons_cons _ (.cons_cons _ .slnil)))⟩ (by kernel_rfl) (List.cons_ne_nil _ _) (allS ?_ (all1 ?_))
        · refine Nxt.mk (o := _) #[true, true, true, true, true, true, true, false, false, false] rfl rfl ?_
          refine W.call S rfl (ref19_ResponseControl_ok S.holds p_x1.fFields Rp_x13 hr10) ?_
          rintro v52 w53 H54 hle55 S rfl
          have Rp_ppend3 := Sl.mono Rp_ppend3 hle55
          have Rp_x13 := Sl.mono Rp_x13 hle55
          refine WL.nil ?_
          refine WC.next (rs := [7]) ⟨H54, (hle33.trans hle55), S.drop _ (.cons _ (.cons_cons _ (.cons_cons _ .slnil)))⟩ (by kernel_rfl) (List.cons_ne_nil _ _) (all1 ?_)
          refine Nxt.mk (o := _) #[true, true, true, true, true, true, true, true, false, false] rfl rfl ?_
          refine W.alloc [(boo false), (boo false), (boo false), (boo false), (boo false), (boo false), (boo false), (int 0), (int 0), (int 0), (int 0)] S zer36 ?_
          intro b56 w57 S
          refine WL.nil ?_
          refine WC.next (rs := [8]) ⟨H54, (hle33.trans hle55), S.drop _ (.cons _ (.cons _ (.cons_cons _ (.cons_cons _ .slnil))))⟩ (by kernel_rfl) (List.cons_ne_nil _ _) (all1 ?_)
          refine Nxt.mk (o := _) #[true, true, true, true, true, true, true, true, true, false] rfl rfl ?_
          refine W.store (i := 1) [(boo r5.fNoStore), (boo r5.fNoCache), (boo r5.fMustRevalidate), (boo r5.fProxyRevalidate), (boo r5.fPrivate), (boo r5.fPublic), (boo r5.fOnlyIfCached), (int r5.fMaxAge), (int r5.fSMaxAge), (int r5.fMinFresh), (int r5.fMaxStale)] S rfl rfl rfl lay36 rfl rfl (Nat.le_of_ble_eq_true rfl) rfl ?_
          intro w58 S
          refine WL.nil ?_
          refine WC.next (rs := [9]) ⟨H54, (hle33.trans hle55), S.drop _ (.cons _ (.cons _ (.cons_cons _ (.cons_cons _ .slnil))))⟩ (by kernel_rfl) (List.cons_ne_nil _ _) (all1 ?_)
          refine Nxt.mk (o := _) #[true, true, true, true, true, true, true, true, true, true] rfl rfl ?_
          refine W.store (i := 0) [(boo r10.fNoStore), (boo r10.fNoCache), (boo r10.fMustRevalidate), (boo r10.fProxyRevalidate), (boo r10.fPrivate), (boo r10.fPublic), (boo r10.fOnlyIfCached), (int r10.fMaxAge), (int r10.fSMaxAge), (int r10.fMinFresh), (int r10.fMaxStale)] S rfl rfl rfl lay36 rfl rfl (Nat.le_of_ble_eq_true rfl) rfl ?_
          intro w59 S
          refine WL.nil ?_
          refine WC.done ⟨H54, (hle33.trans hle55), S.drop _ (.cons _ (.cons _ (.cons_cons _ (.cons_cons _ .slnil))))⟩ (by kernel_rfl) ?_
          have S3 := S
          replace S3 := S3.front 3 rfl
          replace S3 := S3.front 3 rfl
          replace S3 := S3.front 3 rfl
          replace S3 := S3.front 3 rfl
          replace S3 : St w0 H0 _ H54 [.box b56 36 [(boo r10.fNoStore), (boo r10.fNoCache), (boo r10.fMustRevalidate), (boo r10.fProxyRevalidate), (boo r10.fPrivate), (boo r10.fPublic), (boo r10.fOnlyIfCached), (int r10.fMaxAge), (int r10.fSMaxAge), (int r10.fMinFresh), (int r10.fMaxStale)], .box b50 36 [(boo r5.fNoStore), (boo r5.fNoCache), (boo r5.fMustRevalidate), (boo r5.fProxyRevalidate), (boo r5.fPrivate), (boo r5.fPublic), (boo r5.fOnlyIfCached), (int r5.fMaxAge), (int r5.fSMaxAge), (int r5.fMinFresh), (int r5.fMaxStale)], .box b3 26 [(int p_x1.fMinor), (int p_x1.fStatus), (str p_x1.fReason), vp_x13, (str p_x1.fBody)], .box b1 24 [(str p_ppend.fMethod), (str p_ppend.fTarget), (int p_ppend.fMinor), vp_ppend3, (str p_ppend.fBody)]] := S3
          replace S3 : St w0 H0 _ H54 [.box b56 36 [(boo r10.fNoStore), (boo r10.fNoCache), (boo r10.fMustRevalidate), (boo r10.fProxyRevalidate), (boo r10.fPrivate), (boo r10.fPublic), (boo r10.fOnlyIfCached), (int r10.fMaxAge), (int r10.fSMaxAge), (int r10.fMinFresh), (int r10.fMaxStale)], .box b50 36 [(boo r5.fNoStore), (boo r5.fNoCache), (boo r5.fMustRevalidate), (boo r5.fProxyRevalidate), (boo r5.fPrivate), (boo r5.fPublic), (boo r5.fOnlyIfCached), (int r5.fMaxAge), (int r5.fSMaxAge), (int r5.fMinFresh), (int r5.fMaxStale)], .box b3 26 [(int p_x1.fMinor), (int p_x1.fStatus), (str p_x1.fReason), vp_x13, (str p_x1.fBody)], .box b1 24 [(str p_ppend.fMethod), (str p_ppend.fTarget), (int p_ppend.fMinor), vp_ppend3, (str p_ppend.fBody)]] := S3.drop _ (.cons_cons _ (.cons_cons _ (.cons_cons _ (.cons_cons _ .slnil))))
          exact ⟨H54, b50, b56, rfl, rfl, rfl, rfl, Rp_x13, Rp_ppend3, S3⟩
        · refine Nxt.mk (o := _) #[true, true, true, true, true, false, true, true, false, false] rfl rfl ?_
          refine W.alloc [(boo false), (boo false), (boo false), (boo false), (boo false), (boo false), (boo false), (int 0), (int 0), (int 0), (int 0)] S zer36 ?_
          intro b60 w61 S
          refine WL.nil ?_
          refine WC.next (rs := [5]) ⟨H32, hle33, S.drop _ (.cons _ (.cons _ (.cons_cons _ (.cons_cons _ .slnil))))⟩ (by kernel_rfl) (List.cons_ne_nil _ _) (all1 ?_)
          refine Nxt.mk (o := _) #[true, true, true, true, true, true, true, true, false, false] rfl rfl ?_
          refine W.call S rfl (ref19_ResponseControl_ok S.holds p_x1.fFields Rp_x13 hr10) ?_
          rintro v62 w63 H64 hle65 S rfl
          have Rp_ppend3 := Sl.mono Rp_ppend3 hle65
          have Rp_x13 := Sl.mono Rp_x13 hle65
          refine WL.nil ?_
          refine WC.next (rs := [8]) ⟨H64, (hle33.trans hle65), S.drop _ (.cons _ (.cons _ (.cons_cons _ (.cons_cons _ .slnil))))⟩ (by kernel_rfl) (List.cons_ne_nil _ _) (all1 ?_)
          refine Nxt.mk (o := _) #[true, true, true, true, true, true, true, true, true, false] rfl rfl ?_
          refine W.store (i := 1) [(boo r5.fNoStore), (boo r5.fNoCache), (boo r5.fMustRevalidate), (boo r5.fProxyRevalidate), (boo r5.fPrivate), (boo r5.fPublic), (boo r5.fOnlyIfCached), (int r5.fMaxAge), (int r5.fSMaxAge), (int r5.fMinFresh), (int r5.fMaxStale)] S rfl rfl rfl lay36 rfl rfl (Nat.le_of_ble_eq_true rfl) rfl ?_
          intro w66 S
          refine WL.nil ?_
          refine WC.next (rs := [9]) ⟨H64, (hle33.trans hle65), S.drop _ (.cons _ (.cons _ (.cons_cons _ (.cons_cons _ .slnil))))⟩ (by kernel_rfl) (List.cons_ne_nil _ _) (all1 ?_)
          refine Nxt.mk (o := _) #[true, true, true, true, true, true, true, true, true, true] rfl rfl ?_
          refine W.store (i := 0) [(boo r10.fNoStore), (boo r10.fNoCache), (boo r10.fMustRevalidate), (boo r10.fProxyRevalidate), (boo r10.fPrivate), (boo r10.fPublic), (boo r10.fOnlyIfCached), (int r10.fMaxAge), (int r10.fSMaxAge), (int r10.fMinFresh), (int r10.fMaxStale)] S rfl rfl rfl lay36 rfl rfl (Nat.le_of_ble_eq_true rfl) rfl ?_
          intro w67 S
          refine WL.nil ?_
          refine WC.done ⟨H64, (hle33.trans hle65), S.drop _ (.cons _ (.cons _ (.cons_cons _ (.cons_cons _ .slnil))))⟩ (by kernel_rfl) ?_
          have S3 := S
          replace S3 := S3.front 3 rfl
          replace S3 := S3.front 3 rfl
          replace S3 := S3.front 3 rfl
          replace S3 := S3.front 3 rfl
          replace S3 : St w0 H0 _ H64 [.box b60 36 [(boo r10.fNoStore), (boo r10.fNoCache), (boo r10.fMustRevalidate), (boo r10.fProxyRevalidate), (boo r10.fPrivate), (boo r10.fPublic), (boo r10.fOnlyIfCached), (int r10.fMaxAge), (int r10.fSMaxAge), (int r10.fMinFresh), (int r10.fMaxStale)], .box b50 36 [(boo r5.fNoStore), (boo r5.fNoCache), (boo r5.fMustRevalidate), (boo r5.fProxyRevalidate), (boo r5.fPrivate), (boo r5.fPublic), (boo r5.fOnlyIfCached), (int r5.fMaxAge), (int r5.fSMaxAge), (int r5.fMinFresh), (int r5.fMaxStale)], .box b3 26 [(int p_x1.fMinor), (int p_x1.fStatus), (str p_x1.fReason), vp_x13, (str p_x1.fBody)], .box b1 24 [(str p_ppend.fMethod), (str p_ppend.fTarget), (int p_ppend.fMinor), vp_ppend3, (str p_ppend.fBody)]] := S3
          replace S3 : St w0 H0 _ H64 [.box b60 36 [(boo r10.fNoStore), (boo r10.fNoCache), (boo r10.fMustRevalidate), (boo r10.fProxyRevalidate), (boo r10.fPrivate), (boo r10.fPublic), (boo r10.fOnlyIfCached), (int r10.fMaxAge), (int r10.fSMaxAge), (int r10.fMinFresh), (int r10.fMaxStale)], .box b50 36 [(boo r5.fNoStore), (boo r5.fNoCache), (boo r5.fMustRevalidate), (boo r5.fProxyRevalidate), (boo r5.fPrivate), (boo r5.fPublic), (boo r5.fOnlyIfCached), (int r5.fMaxAge), (int r5.fSMaxAge), (int r5.fMinFresh), (int r5.fMaxStale)], .box b3 26 [(int p_x1.fMinor), (int p_x1.fStatus), (str p_x1.fReason), vp_x13, (str p_x1.fBody)], .box b1 24 [(str p_ppend.fMethod), (str p_ppend.fTarget), (int p_ppend.fMinor), vp_ppend3, (str p_ppend.fBody)]] := S3.drop _ (.cons_cons _ (.cons_cons _ (.cons_cons _ (.cons_cons _ .slnil))))
          exact ⟨H64, b50, b60, rfl, rfl, rfl, rfl, Rp_x13, Rp_ppend3, S3⟩
      · refine Nxt.mk (o := _) #[true, true, true, true, true, false, false, true, false, false] rfl rfl ?_
        refine W.alloc [(boo false), (boo false), (boo false), (boo false), (boo false), (boo false), (boo false), (int 0), (int 0), (int 0), (int 0)] S zer36 ?_
        intro b68 w69 S
        refine WL.nil ?_
        refine WC.next (rs := [5, 6]) ⟨H32, hle33, S.drop _ (.cons _ (.cons_cons _ (.cons_cons _ .slnil)))⟩ (by kernel_rfl) (List.cons_ne_nil _ _) (allS ?_ (all1 ?_))
        · refine Nxt.mk (o := _) #[true, true, true, true, true, true, false, true, false, false] rfl rfl ?_
          refine W.call S rfl (ref19_ResponseControl_ok S.holds p_x1.fFields Rp_x13 hr10) ?_
          rintro v70 w71 H72 hle73 S rfl
          have Rp_ppend3 := Sl.mono Rp_ppend3 hle73
          have Rp_x13 := Sl.mono Rp_x13 hle73
          refine WL.nil ?_
          refine WC.next (rs := [6]) ⟨H72, (hle33.trans hle73), S.drop _ (.cons _ (.cons_cons _ (.cons_cons _ .slnil)))⟩ (by kernel_rfl) (List.cons_ne_nil _ _) (all1 ?_)
          refine Nxt.mk (o := _) #[true, true, true, true, true, true, true, true, false, false] rfl rfl ?_
          refine W.alloc [(boo false), (boo false), (boo false), (boo false), (boo false), (boo false), (boo false), (int 0), (int 0), (int 0), (int 0)] S zer36 ?_
          intro b74 w75 S
          refine WL.nil ?_
          refine WC.next (rs := [8]) ⟨H72, (hle33.trans hle73), S.drop _ (.cons _ (.cons _ (.cons_cons _ (.cons_cons _ .slnil))))⟩ (by kernel_rfl) (List.cons_ne_nil _ _) (all1 ?_)
          refine Nxt.mk (o := _) #[true, true, true, true, true, true, true, true, true, false] rfl rfl ?_
          refine W.store (i := 0) [(boo r5.fNoStore), (boo r5.fNoCache), (boo r5.fMustRevalidate), (boo r5.fProxyRevalidate), (boo r5.fPrivate), (boo r5.fPublic), (boo r5.fOnlyIfCached), (int r5.fMaxAge), (int r5.fSMaxAge), (int r5.fMinFresh), (int r5.fMaxStale)] S rfl rfl rfl lay36 rfl rfl (Nat.le_of_ble_eq_true rfl) rfl ?_
          intro w76 S
          refine WL.nil ?_
          refine WC.next (rs := [9]) ⟨H72, (hle33.trans hle73), S.drop _ (.cons _ (.cons _ (.cons_cons _ (.cons_cons _ .slnil))))⟩ (by kernel_rfl) (List.cons_ne_nil _ _) (all1 ?_)
          refine Nxt.mk (o := _) #[true, true, true, true, true, true, true, true, true, true] rfl rfl ?_
          refine W.store (i := 1) [(boo r10.fNoStore), (boo r10.fNoCache), (boo r10.fMustRevalidate), (boo r10.fProxyRevalidate), (boo r10.fPrivate), (boo r10.fPublic), (boo r10.fOnlyIfCached), (int r10.fMaxAge), (int r10.fSMaxAge), (int r10.fMinFresh), (int r10.fMaxStale)] S rfl rfl rfl lay36 rfl rfl (Nat.le_of_ble_eq_true rfl) rfl ?_
          intro w77 S
          refine WL.nil ?_
          refine WC.done ⟨H72, (hle33.trans hle73), S.drop _ (.cons _ (.cons _ (.cons_cons _ (.cons_cons _ .slnil))))⟩ (by kernel_rfl) ?_
          have S3 := S
          replace S3 := S3.front 3 rfl
          replace S3 := S3.front 3 rfl
          replace S3 := S3.front 2 rfl
          replace S3 := S3.front 3 rfl
          replace S3 : St w0 H0 _ H72 [.box b68 36 [(boo r10.fNoStore), (boo r10.fNoCache), (boo r10.fMustRevalidate), (boo r10.fProxyRevalidate), (boo r10.fPrivate), (boo r10.fPublic), (boo r10.fOnlyIfCached), (int r10.fMaxAge), (int r10.fSMaxAge), (int r10.fMinFresh), (int r10.fMaxStale)], .box b74 36 [(boo r5.fNoStore), (boo r5.fNoCache), (boo r5.fMustRevalidate), (boo r5.fProxyRevalidate), (boo r5.fPrivate), (boo r5.fPublic), (boo r5.fOnlyIfCached), (int r5.fMaxAge), (int r5.fSMaxAge), (int r5.fMinFresh), (int r5.fMaxStale)], .box b3 26 [(int p_x1.fMinor), (int p_x1.fStatus), (str p_x1.fReason), vp_x13, (str p_x1.fBody)], .box b1 24 [(str p_ppend.fMethod), (str p_ppend.fTarget), (int p_ppend.fMinor), vp_ppend3, (str p_ppend.fBody)]] := S3
          replace S3 : St w0 H0 _ H72 [.box b68 36 [(boo r10.fNoStore), (boo r10.fNoCache), (boo r10.fMustRevalidate), (boo r10.fProxyRevalidate), (boo r10.fPrivate), (boo r10.fPublic), (boo r10.fOnlyIfCached), (int r10.fMaxAge), (int r10.fSMaxAge), (int r10.fMinFresh), (int r10.fMaxStale)], .box b74 36 [(boo r5.fNoStore), (boo r5.fNoCache), (boo r5.fMustRevalidate), (boo r5.fProxyRevalidate), (boo r5.fPrivate), (boo r5.fPublic), (boo r5.fOnlyIfCached), (int r5.fMaxAge), (int r5.fSMaxAge), (int r5.fMinFresh), (int r5.fMaxStale)], .box b3 26 [(int p_x1.fMinor), (int p_x1.fStatus), (str p_x1.fReason), vp_x13, (str p_x1.fBody)], .box b1 24 [(str p_ppend.fMethod), (str p_ppend.fTarget), (int p_ppend.fMinor), vp_ppend3, (str p_ppend.fBody)]] := S3.drop _ (.cons_cons _ (.cons_cons _ (.cons_cons _ (.cons_cons _ .slnil))))
          exact ⟨H72, b74, b68, rfl, rfl, rfl, rfl, Rp_x13, Rp_ppend3, S3⟩
        · refine Nxt.mk (o := _) #[true, true, true, true, true, false, true, true, false, false] rfl rfl ?_
          refine W.alloc [(boo false), (boo false), (boo false), (boo false), (boo false), (boo false), (boo false), (int 0), (int 0), (int 0), (int 0)] S zer36 ?_
          intro b78 w79 S
          refine WL.nil ?_
          refine WC.next (rs := [5]) ⟨H32, hle33, S.drop _ (.cons _ (.cons _ (.cons_cons _ (.cons_cons _ .slnil))))⟩ (by kernel_rfl) (List.cons_ne_nil _ _) (all1 ?_)
          refine Nxt.mk (o := _) #[true, true, true, true, true, true, true, true, false, false] rfl rfl ?_
          refine W.call S rfl (ref19_ResponseControl_ok S.holds p_x1.fFields Rp_x13 hr10) ?_
          rintro v80 w81 H82 hle83 S rfl
          have Rp_ppend3 := Sl.mono Rp_ppend3 hle83
          have Rp_x13 := Sl.mono Rp_x13 hle83
          refine WL.nil ?_
          refine WC.next (rs := [8]) ⟨H82, (hle33.trans hle83), S.drop _ (.cons _ (.cons _ (.cons_cons _ (.cons_cons _ .slnil))))⟩ (by kernel_rfl) (List.cons_ne_nil _ _) (all1 ?_)
          refine Nxt.mk (o := _) #[true, true, true, true, true, true, true, true, true, false] rfl rfl ?_
          refine W.store (i := 0) [(boo r5.fNoStore), (boo r5.fNoCache), (boo r5.fMustRevalidate), (boo r5.fProxyRevalidate), (boo r5.fPrivate), (boo r5.fPublic), (boo r5.fOnlyIfCached), (int r5.fMaxAge), (int r5.fSMaxAge), (int r5.fMinFresh), (int r5.fMaxStale)] S rfl rfl rfl lay36 rfl rfl (Nat.le_of_ble_eq_true rfl) rfl ?_
          intro w84 S
          refine WL.nil ?_
          refine WC.next (rs := [9]) ⟨H82, (hle33.trans hle83), S.drop _ (.cons _ (.cons _ (.cons_cons _ (.cons_cons _ .slnil))))⟩ (by kernel_rfl) (List.cons_ne_nil _ _) (all1 ?_)
          refine Nxt.mk (o := _) #[true, true, true, true, true, true, true, true, true, true] rfl rfl ?_
          refine W.store (i := 1) [(boo r10.fNoStore), (boo r10.fNoCache), (boo r10.fMustRevalidate), (boo r10.fProxyRevalidate), (boo r10.fPrivate), (boo r10.fPublic), (boo r10.fOnlyIfCached), (int r10.fMaxAge), (int r10.fSMaxAge), (int r10.fMinFresh), (int r10.fMaxStale)] S rfl rfl rfl lay36 rfl rfl (Nat.le_of_ble_eq_true rfl) rfl ?_
          intro w85 S
          refine WL.nil ?_
          refine WC.done ⟨H82, (hle33.trans hle83), S.drop _ (.cons _ (.cons _ (.cons_cons _ (.cons_cons _ .slnil))))⟩ (by kernel_rfl) ?_
          have S3 := S
          replace S3 := S3.front 3 rfl
          replace S3 := S3.front 3 rfl
          replace S3 := S3.front 2 rfl
          replace S3 := S3.front 3 rfl
          replace S3 : St w0 H0 _ H82 [.box b68 36 [(boo r10.fNoStore), (boo r10.fNoCache), (boo r10.fMustRevalidate), (boo r10.fProxyRevalidate), (boo r10.fPrivate), (boo r10.fPublic), (boo r10.fOnlyIfCached), (int r10.fMaxAge), (int r10.fSMaxAge), (int r10.fMinFresh), (int r10.fMaxStale)], .box b78 36 [(boo r5.fNoStore), (boo r5.fNoCache), (boo r5.fMustRevalidate), (boo r5.fProxyRevalidate), (boo r5.fPrivate), (boo r5.fPublic), (boo r5.fOnlyIfCached), (int r5.fMaxAge), (int r5.fSMaxAge), (int r5.fMinFresh), (int r5.fMaxStale)], .box b3 26 [(int p_x1.fMinor), (int p_x1.fStatus), (str p_x1.fReason), vp_x13, (str p_x1.fBody)], .box b1 24 [(str p_ppend.fMethod), (str p_ppend.fTarget), (int p_ppend.fMinor), vp_ppend3, (str p_ppend.fBody)]] := S3
          replace S3 : St w0 H0 _ H82 [.box b68 36 [(boo r10.fNoStore), (boo r10.fNoCache), (boo r10.fMustRevalidate), (boo r10.fProxyRevalidate), (boo r10.fPrivate), (boo r10.fPublic), (boo r10.fOnlyIfCached), (int r10.fMaxAge), (int r10.fSMaxAge), (int r10.fMinFresh), (int r10.fMaxStale)], .box b78 36 [(boo r5.fNoStore), (boo r5.fNoCache), (boo r5.fMustRevalidate), (boo r5.fProxyRevalidate), (boo r5.fPrivate), (boo r5.fPublic), (boo r5.fOnlyIfCached), (int r5.fMaxAge), (int r5.fSMaxAge), (int r5.fMinFresh), (int r5.fMaxStale)], .box b3 26 [(int p_x1.fMinor), (int p_x1.fStatus), (str p_x1.fReason), vp_x13, (str p_x1.fBody)], .box b1 24 [(str p_ppend.fMethod), (str p_ppend.fTarget), (int p_ppend.fMinor), vp_ppend3, (str p_ppend.fBody)]] := S3.drop _ (.cons_cons _ (.cons_cons _ (.cons_cons _ (.cons_cons _ .slnil))))
          exact ⟨H82, b78, b68, rfl, rfl, rfl, rfl, Rp_x13, Rp_ppend3, S3⟩
    · refine Nxt.mk (o := _) #[true, true, false, true, true, false, true, false, false, false] rfl rfl ?_
      refine W.alloc [(boo false), (boo false), (boo false), (boo false), (boo false), (boo false), (boo false), (int 0), (int 0), (int 0), (int 0)] S zer36 ?_
      intro b86 w87 S
      refine WL.nil ?_
      refine WC.next (rs := [2, 7]) ⟨H0, (Hp.le.refl _), S.drop _ (.cons _ (.cons_cons _ (.cons_cons _ .slnil)))⟩ (by kernel_rfl) (List.cons_ne_nil _ _) (allS ?_ (all1 ?_))
      · refine Nxt.mk (o := _) #[true, true, true, true, true, false, true, false, false, false] rfl rfl ?_
        refine W.call S rfl (ref19_RequestControl_ok S.holds p_ppend.fFields Rp_ppend3 hr5) ?_
        rintro v88 w89 H90 hle91 S rfl
        have Rp_ppend3 := Sl.mono Rp_ppend3 hle91
        have Rp_x13 := Sl.mono Rp_x13 hle91
        refine WL.nil ?_
        refine WC.next (rs := [5, 7]) ⟨H90, hle91, S.drop _ (.cons _ (.cons_cons _ (.cons_cons _ .slnil)))⟩ (by kernel_rfl) (List.cons_ne_nil _ _) (allS ?_ (all1 ?_))
        · refine Nxt.mk (o := _) #[true, true, true, true, true, true, true, false, false, false] rfl rfl ?_
          refine W.call S rfl (ref19_ResponseControl_ok S.holds p_x1.fFields Rp_x13 hr10) ?_
          rintro v92 w93 H94 hle95 S rfl
          have Rp_ppend3 := Sl.mono Rp_ppend3 hle95
          have Rp_x13 := Sl.mono Rp_x13 hle95
          refine WL.nil ?_
          refine WC.next (rs := [7]) ⟨H94, (hle91.trans hle95), S.drop _ (.cons _ (.cons_cons _ (.cons_cons _ .slnil)))⟩ (by kernel_rfl) (List.cons_ne_nil _ _) (all1 ?_)
          refine Nxt.mk (o := _) #[true, true, true, true, true, true, true, true, false, false] rfl rfl ?_
          refine W.alloc [(boo false), (boo false), (boo false), (boo false), (boo false), (boo false), (boo false), (int 0), (int 0), (int 0), (int 0)] S zer36 ?_
          intro b96 w97 S
          refine WL.nil ?_
          refine WC.next (rs := [8]) ⟨H94, (hle91.trans hle95), S.drop _ (.cons _ (.cons _ (.cons_cons _ (.cons_cons _ .slnil))))⟩ (by kernel_rfl) (List.cons_ne_nil _ _) (all1 ?_)
          refine Nxt.mk (o := _) #[true, true, true, true, true, true, true, true, true, false] rfl rfl ?_
          refine W.store (i := 1) [(boo r5.fNoStore), (boo r5.fNoCache), (boo r5.fMustRevalidate), (boo r5.fProxyRevalidate), (boo r5.fPrivate), (boo r5.fPublic), (boo r5.fOnlyIfCached), (int r5.fMaxAge), (int r5.fSMaxAge), (int r5.fMinFresh), (int r5.fMaxStale)] S rfl rfl rfl lay36 rfl rfl (Nat.le_of_ble_eq_true rfl) rfl ?_
          intro w98 S
          refine WL.nil ?_
          refine WC.next (rs := [9]) ⟨H94, (hle91.trans hle95), S.drop _ (.cons _ (.cons _ (.cons_cons _ (.cons_cons _ .slnil))))⟩ (by kernel_rfl) (List.cons_ne_nil _ _) (all1 ?_)
          refine Nxt.mk (o := _) #[true, true, true, true, true, true, true, true, true, true] rfl rfl ?_
          refine W.store (i := 0) [(boo r10.fNoStore), (boo r10.fNoCache), (boo r10.fMustRevalidate), (boo r10.fProxyRevalidate), (boo r10.fPrivate), (boo r10.fPublic), (boo r10.fOnlyIfCached), (int r10.fMaxAge), (int r10.fSMaxAge), (int r10.fMinFresh), (int r10.fMaxStale)] S rfl rfl rfl lay36 rfl rfl (Nat.le_of_ble_eq_true rfl) rfl ?_
          intro w99 S
          refine WL.nil ?_
          refine WC.done ⟨H94, (hle91.trans hle95), S.drop _ (.cons _ (.cons _ (.cons_cons _ (.cons_cons _ .slnil))))⟩ (by kernel_rfl) ?_
          have S3 := S
          replace S3 := S3.front 3 rfl
          replace S3 := S3.front 3 rfl
          replace S3 := S3.front 3 rfl
          replace S3 := S3.front 3 rfl
          replace S3 : St w0 H0 _ H94 [.box b96 36 [(boo r10.fNoStore), (boo r10.fNoCache), (boo r10.fMustRevalidate), (boo r10.fProxyRevalidate), (boo r10.fPrivate), (boo r10.fPublic), (boo r10.fOnlyIfCached), (int r10.fMaxAge), (int r10.fSMaxAge), (int r10.fMinFresh), (int r10.fMaxStale)], .box b86 36 [(boo r5.fNoStore), (boo r5.fNoCache), (boo r5.fMustRevalidate), (boo r5.fProxyRevalidate), (boo r5.fPrivate), (boo r5.fPublic), (boo r5.fOnlyIfCached), (int r5.fMaxAge), (int r5.fSMaxAge), (int r5.fMinFresh), (int r5.fMaxStale)], .box b3 26 [(int p_x1.fMinor), (int p_x1.fStatus), (str p_x1.fReason), vp_x13, (str p_x1.fBody)], .box b1 24 [(str p_ppend.fMethod), (str p_ppend.fTarget), (int p_ppend.fMinor), vp_ppend3, (str p_ppend.fBody)]] := S3
          replace S3 : St w0 H0 _ H94 [.box b96 36 [(boo r10.fNoStore), (boo r10.fNoCache), (boo r10.fMustRevalidate), (boo r10.fProxyRevalidate), (boo r10.fPrivate), (boo r10.fPublic), (boo r10.fOnlyIfCached), (int r10.fMaxAge), (int r10.fSMaxAge), (int r10.fMinFresh), (int r10.fMaxStale)], .box b86 36 [(boo r5.fNoStore), (boo r5.fNoCache), (boo r5.fMustRevalidate), (boo r5.fProxyRevalidate), (boo r5.fPrivate), (boo r5.fPublic), (boo r5.fOnlyIfCached), (int r5.fMaxAge), (int r5.fSMaxAge), (int r5.fMinFresh), (int r5.fMaxStale)], .box b3 26 [(int p_x1.fMinor), (int p_x1.fStatus), (str p_x1.fReason), vp_x13, (str p_x1.fBody)], .box b1 24 [(str p_ppend.fMethod), (str p_ppend.fTarget), (int p_ppend.fMinor), vp_ppend3, (str p_ppend.fBody)]] := S3.drop _ (.cons_cons _ (.cons_cons _ (.cons_cons _ (.cons_cons _ .slnil))))
          exact ⟨H94, b86, b96, rfl, rfl, rfl, rfl, Rp_x13, Rp_ppend3, S3⟩
        · refine Nxt.mk (o := _) #[true, true, true, true, true, false, true, true, false, false] rfl rfl ?_
          refine W.alloc [(boo false), (boo false), (boo false), (boo false), (boo false), (boo false), (boo false), (int 0), (int 0), (int 0), (int 0)] S zer36 ?_
          intro b100 w101 S
          refine WL.nil ?_
          refine WC.next (rs := [5]) ⟨H90, hle91, S.drop _ (.cons _ (.cons _ (.cons_cons _ (.cons_cons _ .slnil))))⟩ (by kernel_rfl) (List.cons_ne_nil _ _) (all1 ?_)
          refine Nxt.mk (o := _) #[true, true, true, true, true, true, true, true, false, false] rfl rfl ?_
          refine W.call S rfl (ref19_ResponseControl_ok S.holds p_x1.fFields Rp_x13 hr10) ?_
          rintro v102 w103 H104 hle105 S rfl
          have Rp_ppend3 := Sl.mono Rp_ppend3 hle105
          have Rp_x13 := Sl.mono Rp_x13 hle105
          refine WL.nil ?_
          refine WC.next (rs := [8]) ⟨H104, (hle91.trans hle105), S.drop _ (.cons _ (.cons _ (.cons_cons _ (.cons_cons _ .slnil))))⟩ (by kernel_rfl) (List.cons_ne_nil _ _) (all1 ?_)
          refine Nxt.mk (o := _) #[true, true, true, true, true, true, true, true, true, false] rfl rfl ?_
          refine W.store (i := 1) [(boo r5.fNoStore), (boo r5.fNoCache), (boo r5.fMustRevalidate), (boo r5.fProxyRevalidate), (boo r5.fPrivate), (boo r5.fPublic), (boo r5.fOnlyIfCached), (int r5.fMaxAge), (int r5.fSMaxAge), (int r5.fMinFresh), (int r5.fMaxStale)] S rfl rfl rfl lay36 rfl rfl (Nat.le_of_ble_eq_true rfl) rfl ?_
          intro w106 S
          refine WL.nil ?_
          refine WC.next (rs := [9]) ⟨H104, (hle91.trans hle105), S.drop _ (.cons _ (.cons _ (.cons_cons _ (.cons_cons _ .slnil))))⟩ (by kernel_rfl) (List.cons_ne_nil _ _) (all1 ?_)
          refine Nxt.mk (o := _) #[true, true, true, true, true, true, true, true, true, true] rfl rfl ?_
          refine W.store (i := 0) [(boo r10.fNoStore), (boo r10.fNoCache), (boo r10.fMustRevalidate), (boo r10.fProxyRevalidate), (boo r10.fPrivate), (boo r10.fPublic), (boo r10.fOnlyIfCached), (int r10.fMaxAge), (int r10.fSMaxAge), (int r10.fMinFresh), (int r10.fMaxStale)] S rfl rfl rfl lay36 rfl rfl (Nat.le_of_ble_eq_true rfl) rfl ?_
          intro w107 S
          refine WL.nil ?_
          refine WC.done ⟨H104, (hle91.trans hle105), S.drop _ (.cons _ (.cons _ (.cons_cons _ (.cons_cons _ .slnil))))⟩ (by kernel_rfl) ?_
          have S3 := S
          replace S3 := S3.front 3 rfl
          replace S3 := S3.front 3 rfl
          replace S3 := S3.front 3 rfl
          replace S3 := S3.front 3 rfl
          replace S3 : St w0 H0 _ H104 [.box b100 36 [(boo r10.fNoStore), (boo r10.fNoCache), (boo r10.fMustRevalidate), (boo r10.fProxyRevalidate), (boo r10.fPrivate), (boo r10.fPublic), (boo r10.fOnlyIfCached), (int r10.fMaxAge), (int r10.fSMaxAge), (int r10.fMinFresh), (int r10.fMaxStale)], .box b86 36 [(boo r5.fNoStore), (boo r5.fNoCache), (boo r5.fMustRevalidate), (boo r5.fProxyRevalidate), (boo r5.fPrivate), (boo r5.fPublic), (boo r5.fOnlyIfCached), (int r5.fMaxAge), (int r5.fSMaxAge), (int r5.fMinFresh), (int r5.fMaxStale)], .box b3 26 [(int p_x1.fMinor), (int p_x1.fStatus), (str p_x1.fReason), vp_x13, (str p_x1.fBody)], .box b1 24 [(str p_ppend.fMethod), (str p_ppend.fTarget), (int p_ppend.fMinor), vp_ppend3, (str p_ppend.fBody)]] := S3
          replace S3 : St w0 H0 _ H104 [.box b100 36 [(boo r10.fNoStore), (boo r10.fNoCache), (boo r10.fMustRevalidate), (boo r10.fProxyRevalidate), (boo r10.fPrivate), (boo r10.fPublic), (boo r10.fOnlyIfCached), (int r10.fMaxAge), (int r10.fSMaxAge), (int r10.fMinFresh), (int r10.fMaxStale)], .box b86 36 [(boo r5.fNoStore), (boo r5.fNoCache), (boo r5.fMustRevalidate), (boo r5.fProxyRevalidate), (boo r5.fPrivate), (boo r5.fPublic), (boo r5.fOnlyIfCached), (int r5.fMaxAge), (int r5.fSMaxAge), (int r5.fMinFresh), (int r5.fMaxStale)], .box b3 26 [(int p_x1.fMinor), (int p_x1.fStatus), (str p_x1.fReason), vp_x13, (str p_x1.fBody)], .box b1 24 [(str p_ppend.fMethod), (str p_ppend.fTarget), (int p_ppend.fMinor), vp_ppend3, (str p_ppend.fBody)]] := S3.drop _ (.cons_cons _ (.cons_cons _ (.cons_cons _ (.cons_cons _ .slnil))))
          exact ⟨H104, b86, b100, rfl, rfl, rfl, rfl, Rp_x13, Rp_ppend3, S3⟩
      · refine Nxt.mk (o := _) #[true, true, false, true, true, false, true, true, false, false] rfl rfl ?_
        refine W.alloc [(boo false), (boo false), (boo false), (boo false), (boo false), (boo false), (boo false), (int 0), (int 0), (int 0), (int 0)] S zer36 ?_
        intro b108 w109 S
        refine WL.nil ?_
        refine WC.next (rs := [2]) ⟨H0, (Hp.le.refl _), S.drop _ (.cons _ (.cons _ (.cons_cons _ (.cons_cons _ .slnil))))⟩ (by kernel_rfl) (List.cons_ne_nil _ _) (all1 ?_)
        refine Nxt.mk (o := _) #[true, true, true, true, true, false, true, true, false, false] rfl rfl ?_
        refine W.call S rfl (ref19_RequestControl_ok S.holds p_ppend.fFields Rp_ppend3 hr5) ?_
        rintro v110 w111 H112 hle113 S rfl
        have Rp_ppend3 := Sl.mono Rp_ppend3 hle113
        have Rp_x13 := Sl.mono Rp_x13 hle113
        refine WL.nil ?_
        refine WC.next (rs := [5]) ⟨H112, hle113, S.drop _ (.cons _ (.cons _ (.cons_cons _ (.cons_cons _ .slnil))))⟩ (by kernel_rfl) (List.cons_ne_nil _ _) (all1 ?_)
        refine Nxt.mk (o := _) #[true, true, true, true, true, true, true, true, false, false] rfl rfl ?_
        refine W.call S rfl (ref19_ResponseControl_ok S.holds p_x1.fFields Rp_x13 hr10) ?_
        rintro v114 w115 H116 hle117 S rfl
        have Rp_ppend3 := Sl.mono Rp_ppend3 hle117
        have Rp_x13 := Sl.mono Rp_x13 hle117
        refine WL.nil ?_
        refine WC.next (rs := [8]) ⟨H116, (hle113.trans hle117), S.drop _ (.cons _ (.cons _ (.cons_cons _ (.cons_cons _ .slnil))))⟩ (by kernel_rfl) (List.cons_ne_nil _ _) (all1 ?_)
        refine Nxt.mk (o := _) #[true, true, true, true, true, true, true, true, true, false] rfl rfl ?_
        refine W.store (i := 1) [(boo r5.fNoStore), (boo r5.fNoCache), (boo r5.fMustRevalidate), (boo r5.fProxyRevalidate), (boo r5.fPrivate), (boo r5.fPublic), (boo r5.fOnlyIfCached), (int r5.fMaxAge), (int r5.fSMaxAge), (int r5.fMinFresh), (int r5.fMaxStale)] S rfl rfl rfl lay36 rfl rfl (Nat.le_of_ble_eq_true rfl) rfl ?_
        intro w118 S
        refine WL.nil ?_
        refine WC.next (rs := [9]) ⟨H116, (hle113.trans hle117), S.drop _ (.cons _ (.cons _ (.cons_cons _ (.cons_cons _ .slnil))))⟩ (by kernel_rfl) (List.cons_ne_nil _ _) (all1 ?_)
        refine Nxt.mk (o := _) #[true, true, true, true, true, true, true, true, true, true] rfl rfl ?_
        refine W.store (i := 0) [(boo r10.fNoStore), (boo r10.fNoCache), (boo r10.fMustRevalidate), (boo r10.fProxyRevalidate), (boo r10.fPrivate), (boo r10.fPublic), (boo r10.fOnlyIfCached), (int r10.fMaxAge), (int r10.fSMaxAge), (int r10.fMinFresh), (int r10.fMaxStale)] S rfl rfl rfl lay36 rfl rfl (Nat.le_of_ble_eq_true rfl) rfl ?_
        intro w119 S
        refine WL.nil ?_
        refine WC.done ⟨H116, (hle113.trans hle117), S.drop _ (.cons _ (.cons _ (.cons_cons _ (.cons_cons _ .slnil))))⟩ (by kernel_rfl) ?_
        have S3 := S
        replace S3 := S3.front 3 rfl
        replace S3 := S3.front 3 rfl
        replace S3 := S3.front 3 rfl
        replace S3 := S3.front 3 rfl
        replace S3 : St w0 H0 _ H116 [.box b108 36 [(boo r10.fNoStore), (boo r10.fNoCache), (boo r10.fMustRevalidate), (boo r10.fProxyRevalidate), (boo r10.fPrivate), (boo r10.fPublic), (boo r10.fOnlyIfCached), (int r10.fMaxAge), (int r10.fSMaxAge), (int r10.fMinFresh), (int r10.fMaxStale)], .box b86 36 [(boo r5.fNoStore), (boo r5.fNoCache), (boo r5.fMustRevalidate), (boo r5.fProxyRevalidate), (boo r5.fPrivate), (boo r5.fPublic), (boo r5.fOnlyIfCached), (int r5.fMaxAge), (int r5.fSMaxAge), (int r5.fMinFresh), (int r5.fMaxStale)], .box b3 26 [(int p_x1.fMinor), (int p_x1.fStatus), (str p_x1.fReason), vp_x13, (str p_x1.fBody)], .box b1 24 [(str p_ppend.fMethod), (str p_ppend.fTarget), (int p_ppend.fMinor), vp_ppend3, (str p_ppend.fBody)]] := S3
        replace S3 : St w0 H0 _ H116 [.box b108 36 [(boo r10.fNoStore), (boo r10.fNoCache), (boo r10.fMustRevalidate), (boo r10.fProxyRevalidate), (boo r10.fPrivate), (boo r10.fPublic), (boo r10.fOnlyIfCached), (int r10.fMaxAge), (int r10.fSMaxAge), (int r10.fMinFresh), (int r10.fMaxStale)], .box b86 36 [(boo r5.fNoStore), (boo r5.fNoCache), (boo r5.fMustRevalidate), (boo r5.fProxyRevalidate), (boo r5.fPrivate), (boo r5.fPublic), (boo r5.fOnlyIfCached), (int r5.fMaxAge), (int r5.fSMaxAge), (int r5.fMinFresh), (int r5.fMaxStale)], .box b3 26 [(int p_x1.fMinor), (int p_x1.fStatus), (str p_x1.fReason), vp_x13, (str p_x1.fBody)], .box b1 24 [(str p_ppend.fMethod), (str p_ppend.fTarget), (int p_ppend.fMinor), vp_ppend3, (str p_ppend.fBody)]] := S3.drop _ (.cons_cons _ (.cons_cons _ (.cons_cons _ (.cons_cons _ .slnil))))
        exact ⟨H116, b86, b108, rfl, rfl, rfl, rfl, Rp_x13, Rp_ppend3, S3⟩
    · refine Nxt.mk (o := _) #[true, true, false, true, true, false, false, true, false, false] rfl rfl ?_
      refine W.alloc [(boo false), (boo false), (boo false), (boo false), (boo false), (boo false), (boo false), (int 0), (int 0), (int 0), (int 0)] S zer36 ?_
      intro b120 w121 S
      refine WL.nil ?_
      refine WC.next (rs := [2, 6]) ⟨H0, (Hp.le.refl _), S.drop _ (.cons _ (.cons_cons _ (.cons_cons _ .slnil)))⟩ (by kernel_rfl) (List.cons_ne_nil _ _) (allS ?_ (all1 ?_))
      · refine Nxt.mk (o := _) #[true, true, true, true, true, false, false, true, false, false] rfl rfl ?_
        refine W.call S rfl (ref19_RequestControl_ok S.holds p_ppend.fFields Rp_ppend3 hr5) ?_
        rintro v122 w123 H124 hle125 S rfl
        have Rp_ppend3 := Sl.mono Rp_ppend3 hle125
        have Rp_x13 := Sl.mono Rp_x13 hle125
        refine WL.nil ?_
        refine WC.next (rs := [5, 6]) ⟨H124, hle125, S.drop _ (.cons _ (.cons_cons _ (.cons_cons _ .slnil)))⟩ (by kernel_rfl) (List.cons_ne_nil _ _) (allS ?_ (all1 ?_))
        · refine Nxt.mk (o := _) #[true, true, true, true, true, true, false, true, false, false] rfl rfl ?_
          refine W.call S rfl (ref19_ResponseControl_ok S.holds p_x1.fFields Rp_x13 hr10) ?_
          rintro v126 w127 H128 hle129 S rfl
          have Rp_ppend3 := Sl.mono Rp_ppend3 hle129
          have Rp_x13 := Sl.mono Rp_x13 hle129
          refine WL.nil ?_
          refine WC.next (rs := [6]) ⟨H128, (hle125.trans hle129), S.drop _ (.cons _ (.cons_cons _ (.cons_cons _ .slnil)))⟩ (by kernel_rfl) (List.cons_ne_nil _ _) (all1 ?_)
          refine Nxt.mk (o := _) #[true, true, true, true, true, true, true, true, false, false] rfl rfl ?_
          refine W.alloc [(boo false), (boo false), (boo false), (boo false), (boo false), (boo false), (boo false), (int 0), (int 0), (int 0), (int 0)] S zer36 ?_
          intro b130 w131 S
          refine WL.nil ?_
          refine WC.next (rs := [8]) ⟨H128, (hle125.trans hle129), S.drop _ (.cons _ (.cons _ (.cons_cons _ (.cons_cons _ .slnil))))⟩ (by kernel_rfl) (List.cons_ne_nil _ _) (all1 ?_)
          refine Nxt.mk (o := _) #[true, true, true, true, true, true, true, true, true, false] rfl rfl ?_
          refine W.store (i := 0) [(boo r5.fNoStore), (boo r5.fNoCache), (boo r5.fMustRevalidate), (boo r5.fProxyRevalidate), (boo r5.fPrivate), (boo r5.fPublic), (boo r5.fOnlyIfCached), (int r5.fMaxAge), (int r5.fSMaxAge), (int r5.fMinFresh), (int r5.fMaxStale)] S rfl rfl rfl lay36 rfl rfl (Nat.le_of_ble_eq_true rfl) rfl ?_
          intro w132 S
          refine WL.nil ?_
          refine WC.next (rs := [9]) ⟨H128, (hle125.trans hle129), S.drop _ (.cons _ (.cons _ (.cons_cons _ (.cons_cons _ .slnil))))⟩ (by kernel_rfl) (List.cons_ne_nil _ _) (all1 ?_)
          refine Nxt.mk (o := _) #[true, true, true, true, true, true, true, true, true, true] rfl rfl ?_
          refine W.store (i := 1) [(boo r10.fNoStore), (boo r10.fNoCache), (boo r10.fMustRevalidate), (boo r10.fProxyRevalidate), (boo r10.fPrivate), (boo r10.fPublic), (boo r10.fOnlyIfCached), (int r10.fMaxAge), (int r10.fSMaxAge), (int r10.fMinFresh), (int r10.fMaxStale)] S rfl rfl rfl lay36 rfl rfl (Nat.le_of_ble_eq_true rfl) rfl ?_
          intro w133 S
          refine WL.nil ?_
          refine WC.done ⟨H128, (hle125.trans hle129), S.drop _ (.cons _ (.cons _ (.cons_cons _ (.cons_cons _ .slnil))))⟩ (by kernel_rfl) ?_
          have S3 := S
          replace S3 := S3.front 3 rfl
          replace S3 := S3.front 3 rfl
          replace S3 := S3.front 2 rfl
          replace S3 := S3.front 3 rfl
          replace S3 : St w0 H0 _ H128 [.box b120 36 [(boo r10.fNoStore), (boo r10.fNoCache), (boo r10.fMustRevalidate), (boo r10.fProxyRevalidate), (boo r10.fPrivate), (boo r10.fPublic), (boo r10.fOnlyIfCached), (int r10.fMaxAge), (int r10.fSMaxAge), (int r10.fMinFresh), (int r10.fMaxStale)], .box b130 36 [(boo r5.fNoStore), (boo r5.fNoCache), (boo r5.fMustRevalidate), (boo r5.fProxyRevalidate), (boo r5.fPrivate), (boo r5.fPublic), (boo r5.fOnlyIfCached), (int r5.fMaxAge), (int r5.fSMaxAge), (int r5.fMinFresh), (int r5.fMaxStale)], .box b3 26 [(int p_x1.fMinor), (int p_x1.fStatus), (str p_x1.fReason), vp_x13, (str p_x1.fBody)], .box b1 24 [(str p_ppend.fMethod), (str p_ppend.fTarget), (int p_ppend.fMinor), vp_ppend3, (str p_ppend.fBody)]] := S3
          replace S3 : St w0 H0 _ H128 [.box b120 36 [(boo r10.fNoStore), (boo r10.fNoCache), (boo r10.fMustRevalidate), (boo r10.fProxyRevalidate), (boo r10.fPrivate), (boo r10.fPublic), (boo r10.fOnlyIfCached), (int r10.fMaxAge), (int r10.fSMaxAge), (int r10.fMinFresh), (int r10.fMaxStale)], .box b130 36 [(boo r5.fNoStore), (boo r5.fNoCache), (boo r5.fMustRevalidate), (boo r5.fProxyRevalidate), (boo r5.fPrivate), (boo r5.fPublic), (boo r5.fOnlyIfCached), (int r5.fMaxAge), (int r5.fSMaxAge), (int r5.fMinFresh), (int r5.fMaxStale)], .box b3 26 [(int p_x1.fMinor), (int p_x1.fStatus), (str p_x1.fReason), vp_x13, (str p_x1.fBody)], .box b1 24 [(str p_ppend.fMethod), (str p_ppend.fTarget), (int p_ppend.fMinor), vp_ppend3, (str p_ppend.fBody)]] := S3.drop _ (.cons_cons _ (.cons_cons _ (.cons_cons _ (.cons_cons _ .slnil))))
          exact ⟨H128, b130, b120, rfl, rfl, rfl, rfl, Rp_x13, Rp_ppend3, S3⟩
        · refine Nxt.mk (o := _) #[true, true, true, true, true, false, true, true, false, false] rfl rfl ?_
          refine W.alloc [(boo false), (boo false), (boo false), (boo false), (boo false), (boo false), (boo false), (int 0), (int 0), (int 0), (int 0)] S zer36 ?_
          intro b134 w135 S
          refine WL.nil ?_
          refine WC.next (rs := [5]) ⟨H124, hle125, S.drop _ (.cons _ (.cons _ (.cons_cons _ (.cons_cons _ .slnil))))⟩ (by kernel_rfl) (List.cons_ne_nil _ _) (all1 ?_)
          refine Nxt.mk (o := _) #[true, true, true, true, true, true, true, true, false, false] rfl rfl ?_
          refine W.call S rfl (ref19_ResponseControl_ok S.holds p_x1.fFields Rp_x13 hr10) ?_
          rintro v136 w137 H138 hle139 S rfl
          have Rp_ppend3 := Sl.mono Rp_ppend3 hle139
          have Rp_x13 := Sl.mono Rp_x13 hle139
          refine WL.nil ?_
          refine WC.next (rs := [8]) ⟨H138, (hle125.trans hle139), S.drop _ (.cons _ (.cons _ (.cons_cons _ (.cons_cons _ .slnil))))⟩ (by kernel_rfl) (List.cons_ne_nil _ _) (all1 ?_)
          refine Nxt.mk (o := _) #[true, true, true, true, true, true, true, true, true, false] rfl rfl ?_
          refine W.store (i := 0) [(boo r5.fNoStore), (boo r5.fNoCache), (boo r5.fMustRevalidate), (boo r5.fProxyRevalidate), (boo r5.fPrivate), (boo r5.fPublic), (boo r5.fOnlyIfCached), (int r5.fMaxAge), (int r5.fSMaxAge), (int r5.fMinFresh), (int r5.fMaxStale)] S rfl rfl rfl lay36 rfl rfl (Nat.le_of_ble_eq_true rfl) rfl ?_
          intro w140 S
          refine WL.nil ?_
          refine WC.next (rs := [9]) ⟨H138, (hle125.trans hle139), S.drop _ (.cons _ (.cons _ (.cons_cons _ (.cons_cons _ .slnil))))⟩ (by kernel_rfl) (List.cons_ne_nil _ _) (all1 ?_)
          refine Nxt.mk (o := _) #[true, true, true, true, true, true, true, true, true, true] rfl rfl ?_
          refine W.store (i := 1) [(boo r10.fNoStore), (boo r10.fNoCache), (boo r10.fMustRevalidate), (boo r10.fProxyRevalidate), (boo r10.fPrivate), (boo r10.fPublic), (boo r10.fOnlyIfCached), (int r10.fMaxAge), (int r10.fSMaxAge), (int r10.fMinFresh), (int r10.fMaxStale)] S rfl rfl rfl lay36 rfl rfl (Nat.le_of_ble_eq_true rfl) rfl ?_
          intro w141 S
          refine WL.nil ?_
          refine WC.done ⟨H138, (hle125.trans hle139), S.drop _ (.cons _ (.cons _ (.cons_cons _ (.cons_cons _ .slnil))))⟩ (by kernel_rfl) ?_
          have S3 := S
          replace S3 := S3.front 3 rfl
          replace S3 := S3.front 3 rfl
          replace S3 := S3.front 2 rfl
          replace S3 := S3.front 3 rfl
          replace S3 : St w0 H0 _ H138 [.box b120 36 [(boo r10.fNoStore), (boo r10.fNoCache), (boo r10.fMustRevalidate), (boo r10.fProxyRevalidate), (boo r10.fPrivate), (boo r10.fPublic), (boo r10.fOnlyIfCached), (int r10.fMaxAge), (int r10.fSMaxAge), (int r10.fMinFresh), (int r10.fMaxStale)], .box b134 36 [(boo r5.fNoStore), (boo r5.fNoCache), (boo r5.fMustRevalidate), (boo r5.fProxyRevalidate), (boo r5.fPrivate), (boo r5.fPublic), (boo r5.fOnlyIfCached), (int r5.fMaxAge), (int r5.fSMaxAge), (int r5.fMinFresh), (int r5.fMaxStale)], .box b3 26 [(int p_x1.fMinor), (int p_x1.fStatus), (str p_x1.fReason), vp_x13, (str p_x1.fBody)], .box b1 24 [(str p_ppend.fMethod), (str p_ppend.fTarget), (int p_ppend.fMinor), vp_ppend3, (str p_ppend.fBody)]] := S3
          replace S3 : St w0 H0 _ H138 [.box b120 36 [(boo r10.fNoStore), (boo r10.fNoCache), (boo r10.fMustRevalidate), (boo r10.fProxyRevalidate), (boo r10.fPrivate), (boo r10.fPublic), (boo r10.fOnlyIfCached), (int r10.fMaxAge), (int r10.fSMaxAge), (int r10.fMinFresh), (int r10.fMaxStale)], .box b134 36 [(boo r5.fNoStore), (boo r5.fNoCache), (boo r5.fMustRevalidate), (boo r5.fProxyRevalidate), (boo r5.fPrivate), (boo r5.fPublic), (boo r5.fOnlyIfCached), (int r5.fMaxAge), (int r5.fSMaxAge), (int r5.fMinFresh), (int r5.fMaxStale)], .box b3 26 [(int p_x1.fMinor), (int p_x1.fStatus), (str p_x1.fReason), vp_x13, (str p_x1.fBody)], .box b1 24 [(str p_ppend.fMethod), (str p_ppend.fTarget), (int p_ppend.fMinor), vp_ppend3, (str p_ppend.fBody)]] := S3.drop _ (.cons_cons _ (.cons_cons _ (.cons_cons _ (.cons_cons _ .slnil))))
          exact ⟨H138, b134, b120, rfl, rfl, rfl, rfl, Rp_x13, Rp_ppend3, S3⟩
      · refine Nxt.mk (o := _) #[true, true, false, true, true, false, true, true, false, false] rfl rfl ?_
        refine W.alloc [(boo false), (boo false), (boo false), (boo false), (boo false), (boo false), (boo false), (int 0), (int 0), (int 0), (int 0)] S zer36 ?_
        intro b142 w143 S
        refine WL.nil ?_
        refine WC.next (rs := [2]) ⟨H0, (Hp.le.refl _), S.drop _ (.cons _ (.cons _ (.cons_cons _ (.cons_cons _ .slnil))))⟩ (by kernel_rfl) (List.cons_ne_nil _ _) (all1 ?_)
        refine Nxt.mk (o := _) #[true, true, true, true, true, false, true, true, false, false] rfl rfl ?_
        refine W.call S rfl (ref19_RequestControl_ok S.holds p_ppend.fFields Rp_ppend3 hr5) ?_
        rintro v144 w145 H146 hle147 S rfl
        have Rp_ppend3 := Sl.mono Rp_ppend3 hle147
        have Rp_x13 := Sl.mono Rp_x13 hle147
        refine WL.nil ?_
        refine WC.next (rs := [5]) ⟨H146, hle147, S.drop _ (.cons _ (.cons _ (.cons_cons _ (.cons_cons _ .slnil))))⟩ (by kernel_rfl) (List.cons_ne_nil _ _) (all1 ?_)
        refine Nxt.mk (o := _) #[true, true, true, true, true, true, true, true, false, false] rfl rfl ?_
        refine W.call S rfl (ref19_ResponseControl_ok S.holds p_x1.fFields Rp_x13 hr10) ?_
        rintro v148 w149 H150 hle151 S rfl
        have Rp_ppend3 := Sl.mono Rp_ppend3 hle151
        have Rp_x13 := Sl.mono Rp_x13 hle151
        refine WL.nil ?_
        refine WC.next (rs := [8]) ⟨H150, (hle147.trans hle151), S.drop _ (.cons _ (.cons _ (.cons_cons _ (.cons_cons _ .slnil))))⟩ (by kernel_rfl) (List.cons_ne_nil _ _) (all1 ?_)
        refine Nxt.mk (o := _) #[true, true, true, true, true, true, true, true, true, false] rfl rfl ?_
        refine W.store (i := 0) [(boo r5.fNoStore), (boo r5.fNoCache), (boo r5.fMustRevalidate), (boo r5.fProxyRevalidate), (boo r5.fPrivate), (boo r5.fPublic), (boo r5.fOnlyIfCached), (int r5.fMaxAge), (int r5.fSMaxAge), (int r5.fMinFresh), (int r5.fMaxStale)] S rfl rfl rfl lay36 rfl rfl (Nat.le_of_ble_eq_true rfl) rfl ?_
        intro w152 S
        refine WL.nil ?_
        refine WC.next (rs := [9]) ⟨H150, (hle147.trans hle151), S.drop _ (.cons _ (.cons _ (.cons_cons _ (.cons_cons _ .slnil))))⟩ (by kernel_rfl) (List.cons_ne_nil _ _) (all1 ?_)
        refine Nxt.mk (o := _) #[true, true, true, true, true, true, true, true, true, true] rfl rfl ?_
        refine W.store (i := 1) [(boo r10.fNoStore), (boo r10.fNoCache), (boo r10.fMustRevalidate), (boo r10.fProxyRevalidate), (boo r10.fPrivate), (boo r10.fPublic), (boo r10.fOnlyIfCached), (int r10.fMaxAge), (int r10.fSMaxAge), (int r10.fMinFresh), (int r10.fMaxStale)] S rfl rfl rfl lay36 rfl rfl (Nat.le_of_ble_eq_true rfl) rfl ?_
        intro w153 S
        refine WL.nil ?_
        refine WC.done ⟨H150, (hle147.trans hle151), S.drop _ (.cons _ (.cons _ (.cons_cons _ (.cons_cons _ .slnil))))⟩ (by kernel_rfl) ?_
        have S3 := S
        replace S3 := S3.front 3 rfl
        replace S3 := S3.front 3 rfl
        replace S3 := S3.front 2 rfl
        replace S3 := S3.front 3 rfl
        replace S3 : St w0 H0 _ H150 [.box b120 36 [(boo r10.fNoStore), (boo r10.fNoCache), (boo r10.fMustRevalidate), (boo r10.fProxyRevalidate), (boo r10.fPrivate), (boo r10.fPublic), (boo r10.fOnlyIfCached), (int r10.fMaxAge), (int r10.fSMaxAge), (int r10.fMinFresh), (int r10.fMaxStale)], .box b142 36 [(boo r5.fNoStore), (boo r5.fNoCache), (boo r5.fMustRevalidate), (boo r5.fProxyRevalidate), (boo r5.fPrivate), (boo r5.fPublic), (boo r5.fOnlyIfCached), (int r5.fMaxAge), (int r5.fSMaxAge), (int r5.fMinFresh), (int r5.fMaxStale)], .box b3 26 [(int p_x1.fMinor), (int p_x1.fStatus), (str p_x1.fReason), vp_x13, (str p_x1.fBody)], .box b1 24 [(str p_ppend.fMethod), (str p_ppend.fTarget), (int p_ppend.fMinor), vp_ppend3, (str p_ppend.fBody)]] := S3
        replace S3 : St w0 H0 _ H150 [.box b120 36 [(boo r10.fNoStore), (boo r10.fNoCache), (boo r10.fMustRevalidate), (boo r10.fProxyRevalidate), (boo r10.fPrivate), (boo r10.fPublic), (boo r10.fOnlyIfCached), (int r10.fMaxAge), (int r10.fSMaxAge), (int r10.fMinFresh), (int r10.fMaxStale)], .box b142 36 [(boo r5.fNoStore), (boo r5.fNoCache), (boo r5.fMustRevalidate), (boo r5.fProxyRevalidate), (boo r5.fPrivate), (boo r5.fPublic), (boo r5.fOnlyIfCached), (int r5.fMaxAge), (int r5.fSMaxAge), (int r5.fMinFresh), (int r5.fMaxStale)], .box b3 26 [(int p_x1.fMinor), (int p_x1.fStatus), (str p_x1.fReason), vp_x13, (str p_x1.fBody)], .box b1 24 [(str p_ppend.fMethod), (str p_ppend.fTarget), (int p_ppend.fMinor), vp_ppend3, (str p_ppend.fBody)]] := S3.drop _ (.cons_cons _ (.cons_cons _ (.cons_cons _ (.cons_cons _ .slnil))))
        exact ⟨H150, b142, b120, rfl, rfl, rfl, rfl, Rp_x13, Rp_ppend3, S3⟩
  · rintro f w ⟨H21, b25, b27, h22, h23, h24, h26, R28, R29, S⟩
    refine WP.seq ?_
    refine WP.region ?_
    refine WL.valw (R.fieldB h23 fld26_3) ?_
    refine WL.valw (R.loadB (i := 2) (v := vp_x13) S rfl rfl lay22 rfl) ?_
    obtain ⟨r154, hr154, h⟩ := bindE h
    refine W.call S rfl (ref19_VaryNames_ok S.holds p_x1.fFields R28 hr154) ?_
    rintro v155 w156 H157 hle158 S ⟨u159, rfl, R160⟩
    have R28 := Sl.mono R28 hle158
    have R29 := Sl.mono R29 hle158
    refine WL.valw (R.mv (v := (.tuple ⟨[u159, (boo r154.2)]⟩)) rfl) ?_
    refine WL.valw (R.ext rfl rfl) ?_
    refine WL.valw (R.ext rfl rfl) ?_
    refine WL.valw (R.as (v := u159) rfl) ?_
    refine WL.valw (R.as (v := (boo r154.2)) rfl) ?_
    refine WL.nil ?_
    refine WP.seq ?_
    refine WP.seq ?_
    refine WP.region ?_
    refine WL.valw (R.fieldB h22 fld24_0) ?_
    refine WL.valw (R.loadB (i := 3) (v := (str p_ppend.fMethod)) S rfl rfl lay9 rfl) ?_
    refine WL.valw (R.neqS (a := p_ppend.fMethod) (b := [71, 69, 84]) rfl rfl) ?_
    refine WL.valw (R.mv (v := (boo (p_ppend.fMethod != [71, 69, 84]))) rfl) ?_
    refine WL.grp 4 [25, 26, 27] 28 (boo ((p_ppend.fMethod != [71, 69, 84]) || (p_x1.fStatus != 200))) ?_ ?_
    · rcases boolE (p_ppend.fMethod != [71, 69, 84]) with hb161 | hb161
      · refine WL.gno rfl rfl hb161 ?_
        refine WL.gno rfl rfl hb161 ?_
        refine WL.gno rfl rfl hb161 ?_
        refine WL.valw (R.pickT rfl hb161 rfl) ?_
        exact WL.nil ⟨(orT hb161), (by repeat (first | refine agree_upd rfl ?_ | refine agree_upds' rfl ?_ | exact agree_refl)), rfl⟩
      · refine WL.gyes rfl rfl hb161 ?_
        refine WL.valw (R.fieldB h23 fld26_1) ?_
        refine WL.gyes rfl rfl hb161 ?_
        refine WL.valw (R.loadB (i := 2) (v := (int p_x1.fStatus)) S rfl rfl lay3 rfl) ?_
        refine WL.gyes rfl rfl hb161 ?_
        refine WL.valw (R.neq rfl rfl) ?_
        refine WL.valw (R.pickF rfl hb161 rfl) ?_
        exact WL.nil ⟨(orF hb161), (by repeat (first | refine agree_upd rfl ?_ | refine agree_upds' rfl ?_ | exact agree_refl)), rfl⟩
    · intro us
      refine WL.valw (R.mv (v := (boo ((p_ppend.fMethod != [71, 69, 84]) || (p_x1.fStatus != 200)))) rfl) ?_
      refine WL.grp 3 [30, 31] 32 (boo (((p_ppend.fMethod != [71, 69, 84]) || (p_x1.fStatus != 200)) || r5.fNoStore)) ?_ ?_
      · rcases boolE ((p_ppend.fMethod != [71, 69, 84]) || (p_x1.fStatus != 200)) with hb163 | hb163
        · refine WL.gno rfl rfl hb163 ?_
          refine WL.gno rfl rfl hb163 ?_
          refine WL.valw (R.pickT rfl hb163 rfl) ?_
          exact WL.nil ⟨(orT hb163), (by repeat (first | refine agree_upd rfl ?_ | refine agree_upds' rfl ?_ | exact agree_refl)), rfl⟩
        · refine WL.gyes rfl rfl hb163 ?_
          refine WL.valw (R.fieldB h24 fld36_0) ?_
          refine WL.gyes rfl rfl hb163 ?_
          refine WL.valw (R.loadB (i := 1) (v := (boo r5.fNoStore)) S rfl rfl lay4 rfl) ?_
          refine WL.valw (R.pickF rfl hb163 rfl) ?_
          exact WL.nil ⟨(orF hb163), (by repeat (first | refine agree_upd rfl ?_ | refine agree_upds' rfl ?_ | exact agree_refl)), rfl⟩
      · intro us
        refine WL.valw (R.mv (v := (boo (((p_ppend.fMethod != [71, 69, 84]) || (p_x1.fStatus != 200)) || r5.fNoStore))) rfl) ?_
        refine WL.grp 3 [34, 35] 36 (boo ((((p_ppend.fMethod != [71, 69, 84]) || (p_x1.fStatus != 200)) || r5.fNoStore) || r10.fNoStore)) ?_ ?_
        · rcases boolE (((p_ppend.fMethod != [71, 69, 84]) || (p_x1.fStatus != 200)) || r5.fNoStore) with hb165 | hb165
          · refine WL.gno rfl rfl hb165 ?_
            refine WL.gno rfl rfl hb165 ?_
            refine WL.valw (R.pickT rfl hb165 rfl) ?_
            exact WL.nil ⟨(orT hb165), (by repeat (first | refine agree_upd rfl ?_ | refine agree_upds' rfl ?_ | exact agree_refl)), rfl⟩
          · refine WL.gyes rfl rfl hb165 ?_
            refine WL.valw (R.fieldB h26 fld36_0) ?_
            refine WL.gyes rfl rfl hb165 ?_
            refine WL.valw (R.loadB (i := 0) (v := (boo r10.fNoStore)) S rfl rfl lay4 rfl) ?_
            refine WL.valw (R.pickF rfl hb165 rfl) ?_
            exact WL.nil ⟨(orF hb165), (by repeat (first | refine agree_upd rfl ?_ | refine agree_upds' rfl ?_ | exact agree_refl)), rfl⟩
        · intro us
          refine WL.valw (R.mv (v := (boo ((((p_ppend.fMethod != [71, 69, 84]) || (p_x1.fStatus != 200)) || r5.fNoStore) || r10.fNoStore))) rfl) ?_
          refine WL.grp 3 [38, 39] 40 (boo (((((p_ppend.fMethod != [71, 69, 84]) || (p_x1.fStatus != 200)) || r5.fNoStore) || r10.fNoStore) || r10.fPrivate)) ?_ ?_
          · rcases boolE ((((p_ppend.fMethod != [71, 69, 84]) || (p_x1.fStatus != 200)) || r5.fNoStore) || r10.fNoStore) with hb167 | hb167
            · refine WL.gno rfl rfl hb167 ?_
              refine WL.gno rfl rfl hb167 ?_
              refine WL.valw (R.pickT rfl hb167 rfl) ?_
              exact WL.nil ⟨(orT hb167), (by repeat (first | refine agree_upd rfl ?_ | refine agree_upds' rfl ?_ | exact agree_refl)), rfl⟩
            · refine WL.gyes rfl rfl hb167 ?_
              refine WL.valw (R.fieldB h26 fld36_4) ?_
              refine WL.gyes rfl rfl hb167 ?_
              refine WL.valw (R.loadB (i := 0) (v := (boo r10.fPrivate)) S rfl rfl lay4 rfl) ?_
              refine WL.valw (R.pickF rfl hb167 rfl) ?_
              exact WL.nil ⟨(orF hb167), (by repeat (first | refine agree_upd rfl ?_ | refine agree_upds' rfl ?_ | exact agree_refl)), rfl⟩
          · intro us
            refine WL.valw (R.mv (v := (boo (((((p_ppend.fMethod != [71, 69, 84]) || (p_x1.fStatus != 200)) || r5.fNoStore) || r10.fNoStore) || r10.fPrivate))) rfl) ?_
            refine WL.grp 3 [42, 43] 44 (boo ((((((p_ppend.fMethod != [71, 69, 84]) || (p_x1.fStatus != 200)) || r5.fNoStore) || r10.fNoStore) || r10.fPrivate) || (!r154.2))) ?_ ?_
            · rcases boolE (((((p_ppend.fMethod != [71, 69, 84]) || (p_x1.fStatus != 200)) || r5.fNoStore) || r10.fNoStore) || r10.fPrivate) with hb169 | hb169
              · refine WL.gno rfl rfl hb169 ?_
                refine WL.gno rfl rfl hb169 ?_
                refine WL.valw (R.pickT rfl hb169 rfl) ?_
                exact WL.nil ⟨(orT hb169), (by repeat (first | refine agree_upd rfl ?_ | refine agree_upds' rfl ?_ | exact agree_refl)), rfl⟩
              · refine WL.gyes rfl rfl hb169 ?_
                refine WL.valw (R.mv (v := (boo r154.2)) rfl) ?_
                refine WL.gyes rfl rfl hb169 ?_
                refine WL.valw (R.not rfl) ?_
                refine WL.valw (R.pickF rfl hb169 rfl) ?_
                exact WL.nil ⟨(orF hb169), (by repeat (first | refine agree_upd rfl ?_ | refine agree_upds' rfl ?_ | exact agree_refl)), rfl⟩
            · intro us
              refine WL.valw (R.mv (v := (boo ((((((p_ppend.fMethod != [71, 69, 84]) || (p_x1.fStatus != 200)) || r5.fNoStore) || r10.fNoStore) || r10.fPrivate) || (!r154.2)))) rfl) ?_
              obtain ⟨b178, hg172, h⟩ := bindE h
              refine WL.grpw 4 [46, 47, 48] 49 (boo b178) (fun w => ∃ H' : Hp, H157.le H' ∧ St w0 H0 w H' [.box b27 36 [(boo r10.fNoStore), (boo r10.fNoCache), (boo r10.fMustRevalidate), (boo r10.fProxyRevalidate), (boo r10.fPrivate), (boo r10.fPublic), (boo r10.fOnlyIfCached), (int r10.fMaxAge), (int r10.fSMaxAge), (int r10.fMinFresh), (int r10.fMaxStale)], .box b25 36 [(boo r5.fNoStore), (boo r5.fNoCache), (boo r5.fMustRevalidate), (boo r5.fProxyRevalidate), (boo r5.fPrivate), (boo r5.fPublic), (boo r5.fOnlyIfCached), (int r5.fMaxAge), (int r5.fSMaxAge), (int r5.fMinFresh), (int r5.fMaxStale)], .box b3 26 [(int p_x1.fMinor), (int p_x1.fStatus), (str p_x1.fReason), vp_x13, (str p_x1.fBody)], .box b1 24 [(str p_ppend.fMethod), (str p_ppend.fTarget), (int p_ppend.fMinor), vp_ppend3, (str p_ppend.fBody)]]) ?_ ?_
              · rcases boolE ((((((p_ppend.fMethod != [71, 69, 84]) || (p_x1.fStatus != 200)) || r5.fNoStore) || r10.fNoStore) || r10.fPrivate) || (!r154.2)) with hb171 | hb171
                · replace hg172 := condT hg172 hb171
                  refine WL.gno rfl rfl hb171 ?_
                  refine WL.gno rfl rfl hb171 ?_
                  refine WL.gno rfl rfl hb171 ?_
                  refine WL.valw (R.pickT rfl hb171 rfl) ?_
                  exact WL.nil ⟨(congrArg boo (Option.some.inj hg172)), (by repeat (first | refine agree_upd rfl ?_ | refine agree_upds' rfl ?_ | exact agree_refl)), ⟨H157, (Hp.le.refl _), S⟩⟩
                · replace hg172 := condF hg172 hb171
                  refine WL.gyes rfl rfl hb171 ?_
                  refine WL.valw (R.fieldB h22 fld24_3) ?_
                  refine WL.gyes rfl rfl hb171 ?_
                  refine WL.valw (R.loadB (i := 3) (v := vp_ppend3) S rfl rfl lay22 rfl) ?_
                  refine WL.gyes rfl rfl hb171 ?_
                  obtain ⟨r173, hr173, hg172⟩ := bindE hg172
                  refine W.call S rfl (ref01_Has_ok S.holds p_ppend.fFields [82, 97, 110, 103, 101] R29 hr173) ?_
                  rintro v174 w175 H176 hle177 S rfl
                  have R28 := Sl.mono R28 hle177
                  have R160 := Sl.mono R160 hle177
                  have R29 := Sl.mono R29 hle177
                  refine WL.valw (R.pickF rfl hb171 rfl) ?_
                  exact WL.nil ⟨(congrArg boo (Option.some.inj hg172)), (by repeat (first | refine agree_upd rfl ?_ | refine agree_upds' rfl ?_ | exact agree_refl)), ⟨H176, hle177, S⟩⟩
              · intro us w180 ⟨H179, hle181, S⟩
                have R28 := Sl.mono R28 hle181
                have R160 := Sl.mono R160 hle181
                have R29 := Sl.mono R29 hle181
                refine WL.nil ?_
                rcases condE h with ⟨hc182, h⟩ | ⟨hc182, h⟩
                · refine WP.condT rfl hc182 ?_
                  refine WP.seq ?_
                  refine WP.region ?_
                  refine WL.valw (R.as (v := (boo false)) rfl) ?_
                  refine WL.nil ?_
                  obtain rfl := Option.some.inj h
                  refine WP.ret (Out.one rfl S rfl ?_)
                  exact rfl
                · refine WP.condF rfl hc182 ?_
                  refine WP.skip ?_
                  refine WP.seq ?_
                  refine WP.seq ?_
                  refine WP.region ?_
                  refine WL.valw (R.fieldB h22 fld24_3) ?_
                  refine WL.valw (R.loadB (i := 3) (v := vp_ppend3) S rfl rfl lay22 rfl) ?_
                  obtain ⟨r183, hr183, h⟩ := bindE h
                  refine W.call S rfl (ref01_Has_ok S.holds p_ppend.fFields [65, 117, 116, 104, 111, 114, 105, 122, 97, 116, 105, 111, 110] R29 hr183) ?_
                  rintro v184 w185 H186 hle187 S rfl
                  have R28 := Sl.mono R28 hle187
                  have R160 := Sl.mono R160 hle187
                  have R29 := Sl.mono R29 hle187
                  refine WL.valw (R.mv (v := (boo r183)) rfl) ?_
                  refine WL.grp 4 [54, 55, 56] 57 (boo (r183 && (!r10.fMustRevalidate))) ?_ ?_
                  · rcases boolE r183 with hb188 | hb188
                    · refine WL.gyes rfl rfl hb188 ?_
                      refine WL.valw (R.fieldB h26 fld36_2) ?_
                      refine WL.gyes rfl rfl hb188 ?_
                      refine WL.valw (R.loadB (i := 0) (v := (boo r10.fMustRevalidate)) S rfl rfl lay4 rfl) ?_
                      refine WL.gyes rfl rfl hb188 ?_
                      refine WL.valw (R.not rfl) ?_
                      refine WL.valw (R.pickT rfl hb188 rfl) ?_
                      exact WL.nil ⟨(andT hb188), (by repeat (first | refine agree_upd rfl ?_ | refine agree_upds' rfl ?_ | exact agree_refl)), rfl⟩
                    · refine WL.gno rfl rfl hb188 ?_
                      refine WL.gno rfl rfl hb188 ?_
                      refine WL.gno rfl rfl hb188 ?_
                      refine WL.valw (R.pickF rfl hb188 rfl) ?_
                      exact WL.nil ⟨(andF hb188), (by repeat (first | refine agree_upd rfl ?_ | refine agree_upds' rfl ?_ | exact agree_refl)), rfl⟩
                  · intro us
                    refine WL.valw (R.mv (v := (boo (r183 && (!r10.fMustRevalidate)))) rfl) ?_
                    refine WL.grp 4 [59, 60, 61] 62 (boo ((r183 && (!r10.fMustRevalidate)) && (!r10.fPublic))) ?_ ?_
                    · rcases boolE (r183 && (!r10.fMustRevalidate)) with hb190 | hb190
                      · refine WL.gyes rfl rfl hb190 ?_
                        refine WL.valw (R.fieldB h26 fld36_5) ?_
                        refine WL.gyes rfl rfl hb190 ?_
                        refine WL.valw (R.loadB (i := 0) (v := (boo r10.fPublic)) S rfl rfl lay4 rfl) ?_
                        refine WL.gyes rfl rfl hb190 ?_
                        refine WL.valw (R.not rfl) ?_
                        refine WL.valw (R.pickT rfl hb190 rfl) ?_
                        exact WL.nil ⟨(andT hb190), (by repeat (first | refine agree_upd rfl ?_ | refine agree_upds' rfl ?_ | exact agree_refl)), rfl⟩
                      · refine WL.gno rfl rfl hb190 ?_
                        refine WL.gno rfl rfl hb190 ?_
                        refine WL.gno rfl rfl hb190 ?_
                        refine WL.valw (R.pickF rfl hb190 rfl) ?_
                        exact WL.nil ⟨(andF hb190), (by repeat (first | refine agree_upd rfl ?_ | refine agree_upds' rfl ?_ | exact agree_refl)), rfl⟩
                    · intro us
                      refine WL.valw (R.mv (v := (boo ((r183 && (!r10.fMustRevalidate)) && (!r10.fPublic)))) rfl) ?_
                      refine WL.grp 4 [64, 65, 66] 67 (boo (((r183 && (!r10.fMustRevalidate)) && (!r10.fPublic)) && (r10.fSMaxAge == (-1)))) ?_ ?_
                      · rcases boolE ((r183 && (!r10.fMustRevalidate)) && (!r10.fPublic)) with hb192 | hb192
                        · refine WL.gyes rfl rfl hb192 ?_
                          refine WL.valw (R.fieldB h26 fld36_8) ?_
                          refine WL.gyes rfl rfl hb192 ?_
                          refine WL.valw (R.loadB (i := 0) (v := (int r10.fSMaxAge)) S rfl rfl lay3 rfl) ?_
                          refine WL.gyes rfl rfl hb192 ?_
                          refine WL.valw (R.eql rfl rfl) ?_
                          refine WL.valw (R.pickT rfl hb192 rfl) ?_
                          exact WL.nil ⟨(andT hb192), (by repeat (first | refine agree_upd rfl ?_ | refine agree_upds' rfl ?_ | exact agree_refl)), rfl⟩
                        · refine WL.gno rfl rfl hb192 ?_
                          refine WL.gno rfl rfl hb192 ?_
                          refine WL.gno rfl rfl hb192 ?_
                          refine WL.valw (R.pickF rfl hb192 rfl) ?_
                          exact WL.nil ⟨(andF hb192), (by repeat (first | refine agree_upd rfl ?_ | refine agree_upds' rfl ?_ | exact agree_refl)), rfl⟩
                      · intro us
                        refine WL.nil ?_
                        rcases condE h with ⟨hc194, h⟩ | ⟨hc194, h⟩
                        · refine WP.condT rfl hc194 ?_
                          refine WP.seq ?_
                          refine WP.region ?_
                          refine WL.valw (R.as (v := (boo false)) rfl) ?_
                          refine WL.nil ?_
                          obtain rfl := Option.some.inj h
                          refine WP.ret (Out.one rfl S rfl ?_)
                          exact rfl
                        · refine WP.condF rfl hc194 ?_
                          refine WP.skip ?_
                          refine WP.seq ?_
                          refine WP.region ?_
                          refine WL.valw (R.fieldB h23 fld26_3) ?_
                          refine WL.valw (R.loadB (i := 2) (v := vp_x13) S rfl rfl lay22 rfl) ?_
                          obtain ⟨r195, hr195, h⟩ := bindE h
                          refine W.call S rfl (ref19_Lifetime_ok S.holds p_x1.fFields R28 hr195) ?_
                          rintro v196 w197 H198 hle199 S rfl
                          have R28 := Sl.mono R28 hle199
                          have R160 := Sl.mono R160 hle199
                          have R29 := Sl.mono R29 hle199
                          refine WL.valw (R.gtr rfl rfl) ?_
                          refine WL.valw (R.mv (v := (boo (decide (0 < r195)))) rfl) ?_
                          obtain ⟨b207, hg201, h⟩ := bindE h
                          refine WL.grpw 4 [73, 74, 75] 76 (boo b207) (fun w => ∃ H' : Hp, H198.le H' ∧ St w0 H0 w H' [.box b27 36 [(boo r10.fNoStore), (boo r10.fNoCache), (boo r10.fMustRevalidate), (boo r10.fProxyRevalidate), (boo r10.fPrivate), (boo r10.fPublic), (boo r10.fOnlyIfCached), (int r10.fMaxAge), (int r10.fSMaxAge), (int r10.fMinFresh), (int r10.fMaxStale)], .box b25 36 [(boo r5.fNoStore), (boo r5.fNoCache), (boo r5.fMustRevalidate), (boo r5.fProxyRevalidate), (boo r5.fPrivate), (boo r5.fPublic), (boo r5.fOnlyIfCached), (int r5.fMaxAge), (int r5.fSMaxAge), (int r5.fMinFresh), (int r5.fMaxStale)], .box b3 26 [(int p_x1.fMinor), (int p_x1.fStatus), (str p_x1.fReason), vp_x13, (str p_x1.fBody)], .box b1 24 [(str p_ppend.fMethod), (str p_ppend.fTarget), (int p_ppend.fMinor), vp_ppend3, (str p_ppend.fBody)]]) ?_ ?_
                          · rcases boolE (decide (0 < r195)) with hb200 | hb200
                            · replace hg201 := condT hg201 hb200
                              refine WL.gno rfl rfl hb200 ?_
                              refine WL.gno rfl rfl hb200 ?_
                              refine WL.gno rfl rfl hb200 ?_
                              refine WL.valw (R.pickT rfl hb200 rfl) ?_
                              exact WL.nil ⟨(congrArg boo (Option.some.inj hg201)), (by repeat (first | refine agree_upd rfl ?_ | refine agree_upds' rfl ?_ | exact agree_refl)), ⟨H198, (Hp.le.refl _), S⟩⟩
                            · replace hg201 := condF hg201 hb200
                              refine WL.gyes rfl rfl hb200 ?_
                              refine WL.valw (R.fieldB h23 fld26_3) ?_
                              refine WL.gyes rfl rfl hb200 ?_
                              refine WL.valw (R.loadB (i := 2) (v := vp_x13) S rfl rfl lay22 rfl) ?_
                              refine WL.gyes rfl rfl hb200 ?_
                              obtain ⟨r202, hr202, hg201⟩ := bindE hg201
                              refine W.call S rfl (ref19_Validator_ok S.holds p_x1.fFields R28 hr202) ?_
                              rintro v203 w204 H205 hle206 S rfl
                              have R28 := Sl.mono R28 hle206
                              have R160 := Sl.mono R160 hle206
                              have R29 := Sl.mono R29 hle206
                              refine WL.valw (R.pickF rfl hb200 rfl) ?_
                              exact WL.nil ⟨(congrArg boo (Option.some.inj hg201)), (by repeat (first | refine agree_upd rfl ?_ | refine agree_upds' rfl ?_ | exact agree_refl)), ⟨H205, hle206, S⟩⟩
                          · intro us w209 ⟨H208, hle210, S⟩
                            have R28 := Sl.mono R28 hle210
                            have R160 := Sl.mono R160 hle210
                            have R29 := Sl.mono R29 hle210
                            refine WL.valw (R.as (v := (boo b207)) rfl) ?_
                            refine WL.nil ?_
                            obtain rfl := Option.some.inj h
                            refine WP.ret (Out.one rfl S rfl ?_)
                            exact rfl
set_option maxRecDepth 10000 in
set_option maxHeartbeats 4000000 in
theorem storable_Unsafe_ok {w0 : World} {H0 : Hp} (hw : Holds w0 H0) (p_method : Str) {r : Bool} (h : storable_Unsafe p_method = some r) :
    Con Tryz.prog 14 [(str p_method)] w0 H0 (fun H' v => v = (boo r)) := by
  refine Con.mk (N := 17) Tryz.func14 rfl rfl (by kernel_rfl) rfl ?_
  have S := St.start hw
  refine WP.seq ?_
  refine WP.region ?_
  refine WL.valw (R.as (v := (boo false)) rfl) ?_
  refine WL.nil ?_
  refine WP.seq ?_
  refine WP.region ?_
  refine WL.valw (R.mv (v := (str p_method)) rfl) ?_
  refine WL.valw (R.neqS (a := p_method) (b := [71, 69, 84]) rfl rfl) ?_
  refine WL.valw (R.mv (v := (boo (p_method != [71, 69, 84]))) rfl) ?_
  refine WL.grp 3 [6, 7] 8 (boo ((p_method != [71, 69, 84]) && (p_method != [72, 69, 65, 68]))) ?_ ?_
  · rcases boolE (p_method != [71, 69, 84]) with hb1 | hb1
    · refine WL.gyes rfl rfl hb1 ?_
      refine WL.valw (R.mv (v := (str p_method)) rfl) ?_
      refine WL.gyes rfl rfl hb1 ?_
      refine WL.valw (R.neqS (a := p_method) (b := [72, 69, 65, 68]) rfl rfl) ?_
      refine WL.valw (R.pickT rfl hb1 rfl) ?_
      exact WL.nil ⟨(andT hb1), (by repeat (first | refine agree_upd rfl ?_ | refine agree_upds' rfl ?_ | exact agree_refl)), rfl⟩
    · refine WL.gno rfl rfl hb1 ?_
      refine WL.gno rfl rfl hb1 ?_
      refine WL.valw (R.pickF rfl hb1 rfl) ?_
      exact WL.nil ⟨(andF hb1), (by repeat (first | refine agree_upd rfl ?_ | refine agree_upds' rfl ?_ | exact agree_refl)), rfl⟩
  · intro us
    refine WL.valw (R.mv (v := (boo ((p_method != [71, 69, 84]) && (p_method != [72, 69, 65, 68])))) rfl) ?_
    refine WL.grp 3 [10, 11] 12 (boo (((p_method != [71, 69, 84]) && (p_method != [72, 69, 65, 68])) && (p_method != [79, 80, 84, 73, 79, 78, 83]))) ?_ ?_
    · rcases boolE ((p_method != [71, 69, 84]) && (p_method != [72, 69, 65, 68])) with hb3 | hb3
      · refine WL.gyes rfl rfl hb3 ?_
        refine WL.valw (R.mv (v := (str p_method)) rfl) ?_
        refine WL.gyes rfl rfl hb3 ?_
        refine WL.valw (R.neqS (a := p_method) (b := [79, 80, 84, 73, 79, 78, 83]) rfl rfl) ?_
        refine WL.valw (R.pickT rfl hb3 rfl) ?_
        exact WL.nil ⟨(andT hb3), (by repeat (first | refine agree_upd rfl ?_ | refine agree_upds' rfl ?_ | exact agree_refl)), rfl⟩
      · refine WL.gno rfl rfl hb3 ?_
        refine WL.gno rfl rfl hb3 ?_
        refine WL.valw (R.pickF rfl hb3 rfl) ?_
        exact WL.nil ⟨(andF hb3), (by repeat (first | refine agree_upd rfl ?_ | refine agree_upds' rfl ?_ | exact agree_refl)), rfl⟩
    · intro us
      refine WL.valw (R.mv (v := (boo (((p_method != [71, 69, 84]) && (p_method != [72, 69, 65, 68])) && (p_method != [79, 80, 84, 73, 79, 78, 83])))) rfl) ?_
      refine WL.grp 3 [14, 15] 16 (boo ((((p_method != [71, 69, 84]) && (p_method != [72, 69, 65, 68])) && (p_method != [79, 80, 84, 73, 79, 78, 83])) && (p_method != [84, 82, 65, 67, 69]))) ?_ ?_
      · rcases boolE (((p_method != [71, 69, 84]) && (p_method != [72, 69, 65, 68])) && (p_method != [79, 80, 84, 73, 79, 78, 83])) with hb5 | hb5
        · refine WL.gyes rfl rfl hb5 ?_
          refine WL.valw (R.mv (v := (str p_method)) rfl) ?_
          refine WL.gyes rfl rfl hb5 ?_
          refine WL.valw (R.neqS (a := p_method) (b := [84, 82, 65, 67, 69]) rfl rfl) ?_
          refine WL.valw (R.pickT rfl hb5 rfl) ?_
          exact WL.nil ⟨(andT hb5), (by repeat (first | refine agree_upd rfl ?_ | refine agree_upds' rfl ?_ | exact agree_refl)), rfl⟩
        · refine WL.gno rfl rfl hb5 ?_
          refine WL.gno rfl rfl hb5 ?_
          refine WL.valw (R.pickF rfl hb5 rfl) ?_
          exact WL.nil ⟨(andF hb5), (by repeat (first | refine agree_upd rfl ?_ | refine agree_upds' rfl ?_ | exact agree_refl)), rfl⟩
      · intro us
        refine WL.valw (R.as (v := (boo ((((p_method != [71, 69, 84]) && (p_method != [72, 69, 65, 68])) && (p_method != [79, 80, 84, 73, 79, 78, 83])) && (p_method != [84, 82, 65, 67, 69])))) rfl) ?_
        refine WL.nil ?_
        obtain rfl := Option.some.inj h
        refine WP.ret (Out.one rfl S rfl ?_)
        exact rfl
set_option maxRecDepth 10000 in
set_option maxHeartbeats 4000000 in
theorem law24_awake_ok {w0 : World} {H0 : Hp} (hw : Holds w0 H0) {r : Bool} (h : law24_awake = some r) :
    Con Tryz.prog 10 [] w0 H0 (fun H' v => v = (boo r)) := by
  refine Con.mk (N := 19) Tryz.func10 rfl rfl (by kernel_rfl) rfl ?_
  have S := St.start hw
  refine WP.seq ?_
  refine WP.region ?_
  refine WL.valw (R.as (v := (boo false)) rfl) ?_
  refine WL.nil ?_
  refine WP.seq ?_
  refine WP.region ?_
  refine WL.valw (R.build [(0, (str [71, 69, 84]))] [(str [71, 69, 84]), (str []), (int 0), (.slice none 0 0), (str [])] bp24 zer24 rfl rfl) ?_
  refine W.alloc [(str []), (str []), (int 0), (.slice none 0 0), (str [])] S zer24 ?_
  intro b1 w2 S
  refine W.store (i := 0) [(str [71, 69, 84]), (str []), (int 0), (.slice none 0 0), (str [])] S rfl rfl rfl lay24 rfl (AllOne.all (l := [(str [71, 69, 84]), (str []), (int 0), (.slice none 0 0), (str [])]) (.cons rfl (.cons rfl (.cons rfl (.cons rfl (.cons rfl .nil)))))) (Nat.le_of_ble_eq_true rfl) rfl ?_
  intro w3 S
  refine WL.nil ?_
  refine WP.seq ?_
  refine WP.region ?_
  refine WL.valw (R.build [(0, (str [67, 97, 99, 104, 101, 45, 67, 111, 110, 116, 114, 111, 108])), (1, (str [109, 97, 120, 45, 97, 103, 101, 61, 49]))] [(str [67, 97, 99, 104, 101, 45, 67, 111, 110, 116, 114, 111, 108]), (str [109, 97, 120, 45, 97, 103, 101, 61, 49])] bp42 zer42 rfl rfl) ?_
  refine W.bslice (α := GField) [(agg [(str [67, 97, 99, 104, 101, 45, 67, 111, 110, 116, 114, 111, 108]), (str [109, 97, 120, 45, 97, 103, 101, 61, 49])])] ([(⟨[67, 97, 99, 104, 101, 45, 67, 111, 110, 116, 114, 111, 108], [109, 97, 120, 45, 97, 103, 101, 61, 49]⟩ : GField)] : List GField) S el22 rfl rfl rfl (by decide) (Go.Eng.encS ⟨rfl, rfl⟩ enc0) ?_
  intro u4 w5 H6 hle7 R8 S
  refine WL.valw (R.build [(1, (int 200)), (3, u4)] [(int 0), (int 200), (str []), u4, (str [])] bp26 zer26 rfl (by obtain ⟨_, _, rfl, _⟩ := R8; rfl)) ?_
  refine W.alloc [(int 0), (int 0), (str []), (.slice none 0 0), (str [])] S zer26 ?_
  intro b9 w10 S
  refine W.store (i := 0) [(int 0), (int 200), (str []), u4, (str [])] S rfl rfl rfl lay26 rfl (AllOne.all (l := [(int 0), (int 200), (str []), u4, (str [])]) (.cons rfl (.cons rfl (.cons rfl (.cons (Sl.oneC R8) (.cons rfl .nil)))))) (Nat.le_of_ble_eq_true rfl) rfl ?_
  intro w11 S
  refine WL.nil ?_
  refine WP.seq ?_
  refine WP.region ?_
  refine WL.valw (R.loadBN (i := 2) (vs := [(str [71, 69, 84]), (str []), (int 0), (.slice none 0 0), (str [])]) S rfl rfl lay24 rfl rfl) ?_
  refine WL.valw (R.loadBN (i := 0) (vs := [(int 0), (int 200), (str []), u4, (str [])]) S rfl rfl lay26 rfl rfl) ?_
  obtain ⟨r12, hr12, h⟩ := bindE h
  refine W.call S rfl (storable_Storable_ok S.holds (⟨[71, 69, 84], [], 0, ([] : List GField), []⟩ : GRequest) (⟨0, 200, [], ([(⟨[67, 97, 99, 104, 101, 45, 67, 111, 110, 116, 114, 111, 108], [109, 97, 120, 45, 97, 103, 101, 61, 49]⟩ : GField)] : List GField), []⟩ : GResponse) Sl.nil R8 hr12) ?_
  rintro v13 w14 H15 hle16 S rfl
  have R8 := Sl.mono R8 hle16
  refine WL.valw (R.mv (v := (boo r12)) rfl) ?_
  obtain ⟨b24, hg18, h⟩ := bindE h
  refine WL.grpw 5 [11, 12, 13, 14] 15 (boo b24) (fun w => ∃ H' : Hp, H15.le H' ∧ St w0 H0 w H' [.box b9 26 [(int 0), (int 200), (str []), u4, (str [])], .row u4 42 2 ([(⟨[67, 97, 99, 104, 101, 45, 67, 111, 110, 116, 114, 111, 108], [109, 97, 120, 45, 97, 103, 101, 61, 49]⟩ : GField)] : List GField).length, .box b1 24 [(str [71, 69, 84]), (str []), (int 0), (.slice none 0 0), (str [])]]) ?_ ?_
  · rcases boolE r12 with hb17 | hb17
    · replace hg18 := condT hg18 hb17
      refine WL.gyes rfl rfl hb17 ?_
      refine WL.valw (R.loadBN (i := 2) (vs := [(str [71, 69, 84]), (str []), (int 0), (.slice none 0 0), (str [])]) S rfl rfl lay24 rfl rfl) ?_
      refine WL.gyes rfl rfl hb17 ?_
      refine WL.valw (R.build [(1, (int 200))] [(int 0), (int 200), (str []), (.slice none 0 0), (str [])] bp26 zer26 rfl rfl) ?_
      refine WL.gyes rfl rfl hb17 ?_
      obtain ⟨r19, hr19, hg18⟩ := bindE hg18
      refine W.call S rfl (storable_Storable_ok S.holds (⟨[71, 69, 84], [], 0, ([] : List GField), []⟩ : GRequest) (⟨0, 200, [], ([] : List GField), []⟩ : GResponse) Sl.nil Sl.nil hr19) ?_
      rintro v20 w21 H22 hle23 S rfl
      have R8 := Sl.mono R8 hle23
      refine WL.gyes rfl rfl hb17 ?_
      refine WL.valw (R.not rfl) ?_
      refine WL.valw (R.pickT rfl hb17 rfl) ?_
      exact WL.nil ⟨(congrArg boo (Option.some.inj hg18)), (by repeat (first | refine agree_upd rfl ?_ | refine agree_upds' rfl ?_ | exact agree_refl)), ⟨H22, hle23, S⟩⟩
    · replace hg18 := condF hg18 hb17
      refine WL.gno rfl rfl hb17 ?_
      refine WL.gno rfl rfl hb17 ?_
      refine WL.gno rfl rfl hb17 ?_
      refine WL.gno rfl rfl hb17 ?_
      refine WL.valw (R.pickF rfl hb17 rfl) ?_
      exact WL.nil ⟨(congrArg boo (Option.some.inj hg18)), (by repeat (first | refine agree_upd rfl ?_ | refine agree_upds' rfl ?_ | exact agree_refl)), ⟨H15, (Hp.le.refl _), S⟩⟩
  · intro us w26 ⟨H25, hle27, S⟩
    have R8 := Sl.mono R8 hle27
    refine WL.valw (R.mv (v := (boo b24)) rfl) ?_
    obtain ⟨b35, hg29, h⟩ := bindE h
    refine WL.grpw 2 [17] 18 (boo b35) (fun w => ∃ H' : Hp, H25.le H' ∧ St w0 H0 w H' [.box b9 26 [(int 0), (int 200), (str []), u4, (str [])], .row u4 42 2 ([(⟨[67, 97, 99, 104, 101, 45, 67, 111, 110, 116, 114, 111, 108], [109, 97, 120, 45, 97, 103, 101, 61, 49]⟩ : GField)] : List GField).length, .box b1 24 [(str [71, 69, 84]), (str []), (int 0), (.slice none 0 0), (str [])]]) ?_ ?_
    · rcases boolE b24 with hb28 | hb28
      · replace hg29 := condT hg29 hb28
        refine WL.gyes rfl rfl hb28 ?_
        obtain ⟨r30, hr30, hg29⟩ := bindE hg29
        refine W.call S rfl (storable_Unsafe_ok S.holds [80, 79, 83, 84] hr30) ?_
        rintro v31 w32 H33 hle34 S rfl
        have R8 := Sl.mono R8 hle34
        refine WL.valw (R.pickT rfl hb28 rfl) ?_
        exact WL.nil ⟨(congrArg boo (Option.some.inj hg29)), (by repeat (first | refine agree_upd rfl ?_ | refine agree_upds' rfl ?_ | exact agree_refl)), ⟨H33, hle34, S⟩⟩
      · replace hg29 := condF hg29 hb28
        refine WL.gno rfl rfl hb28 ?_
        refine WL.valw (R.pickF rfl hb28 rfl) ?_
        exact WL.nil ⟨(congrArg boo (Option.some.inj hg29)), (by repeat (first | refine agree_upd rfl ?_ | refine agree_upds' rfl ?_ | exact agree_refl)), ⟨H25, (Hp.le.refl _), S⟩⟩
    · intro us w37 ⟨H36, hle38, S⟩
      have R8 := Sl.mono R8 hle38
      refine WL.valw (R.as (v := (boo b35)) rfl) ?_
      refine WL.nil ?_
      obtain rfl := Option.some.inj h
      refine WP.ret (Out.one rfl S rfl ?_)
      exact rfl
end Go.Proofs
