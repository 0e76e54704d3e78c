/- A part of the proof of laws of the seat: written by program over the translation. -/
import Derived.Test.YtdijehmmnpofjaaDoorGenC5
namespace Go.Proofs
open Go.Eng Go.Eng.Pure
set_option linter.unusedVariables false
set_option maxRecDepth 10000 in
set_option maxHeartbeats 4000000 in
theorem ref19_RequestControl_ok {w0 : World} {H0 : Hp} (hw : Holds w0 H0) (p_l : (List GField)) {vp_l : Value} (Rp_l : Sl (α := GField) H0 vp_l p_l) {r : GControl} (h : ref19_RequestControl p_l = some r) :
    Con Tryd.prog 26 [vp_l] w0 H0 (fun H' v => v = (agg [(boo r.fNoStore), (boo r.fNoCache), (boo r.fMustRevalidate), (boo r.fProxyRevalidate), (boo r.fPrivate), (boo r.fPublic), (boo r.fOnlyIfCached), (int r.fMaxAge), (int r.fSMaxAge), (int r.fMinFresh), (int r.fMaxStale)])) := by
  refine Con.mk (N := 30) Tryd.func26 rfl rfl (by kernel_rfl) rfl ?_
  have S := St.start hw
  refine WP.seq ?_
  refine WP.region ?_
  refine W.alloc [(boo false), (boo false), (boo false), (boo false), (boo false), (boo false), (boo false), (int 0), (int 0), (int 0), (int 0)] S zer32 ?_
  intro b1 w2 S
  refine WL.nil ?_
  refine WP.seq ?_
  refine WP.region ?_
  refine WL.valw (R.mv (v := vp_l) rfl) ?_
  obtain ⟨r3, hr3, h⟩ := bindE h
  refine W.call S rfl (ref19_ResponseControl_ok S.holds p_l Rp_l hr3) ?_
  rintro v4 w5 H6 hle7 S rfl
  have Rp_l := Sl.mono Rp_l hle7
  refine W.alloc [(boo false), (boo false), (boo false), (boo false), (boo false), (boo false), (boo false), (int 0), (int 0), (int 0), (int 0)] S zer32 ?_
  intro b8 w9 S
  refine W.store (i := 0) [(boo r3.fNoStore), (boo r3.fNoCache), (boo r3.fMustRevalidate), (boo r3.fProxyRevalidate), (boo r3.fPrivate), (boo r3.fPublic), (boo r3.fOnlyIfCached), (int r3.fMaxAge), (int r3.fSMaxAge), (int r3.fMinFresh), (int r3.fMaxStale)] S rfl rfl rfl lay32 rfl rfl (Nat.le_of_ble_eq_true rfl) rfl ?_
  intro w10 S
  refine WL.nil ?_
  refine WP.seq ?_
  refine WP.seq ?_
  refine WP.region ?_
  refine WL.valw (R.mv (v := vp_l) rfl) ?_
  obtain ⟨r11, hr11, h⟩ := bindE h
  refine W.call S rfl (ref01_Has_ok S.holds p_l [67, 97, 99, 104, 101, 45, 67, 111, 110, 116, 114, 111, 108] Rp_l hr11) ?_
  rintro v12 w13 H14 hle15 S rfl
  have Rp_l := Sl.mono Rp_l hle15
  refine WL.valw (R.not rfl) ?_
  refine WL.nil ?_
  obtain ⟨⟨m19, m20, m21, m22, m23, m24, m25, m26, m27, m28, m29⟩, hj30, h⟩ := bindE h
  refine WP.cut (fun f w => ∃ (H16 : Hp), f 2 = (ptr b1 0) ∧ f 3 = (ptr b8 0) ∧ St w0 H0 w H16 [.box b8 32 [(boo m19), (boo m20), (boo m21), (boo m22), (boo m23), (boo m24), (boo m25), (int m26), (int m27), (int m28), (int m29)], .box b1 32 [(boo false), (boo false), (boo false), (boo false), (boo false), (boo false), (boo false), (int 0), (int 0), (int 0), (int 0)]]) ?_ ?_
  · rcases condE hj30 with ⟨hc32, hj30⟩ | ⟨hc32, hj30⟩
    · refine WP.condT rfl hc32 ?_
      refine WP.seq ?_
      refine WP.region ?_
      refine WL.valw (R.mv (v := vp_l) rfl) ?_
      obtain ⟨r33, hr33, hj30⟩ := bindE hj30
      refine W.call S rfl (ref01_All_ok S.holds p_l [80, 114, 97, 103, 109, 97] Rp_l hr33) ?_
      rintro v34 w35 H36 hle37 S R38
      have Rp_l := Sl.mono Rp_l hle37
      refine WL.valw (R.as (v := v34) rfl) ?_
      refine WL.nil ?_
      refine WP.seq ?_
      refine WP.region ?_
      refine WL.valw (R.as (v := (int 0)) rfl) ?_
      refine WL.nil ?_
      obtain ⟨r73, hr74, hj30⟩ := bindE hj30
      refine WP.cut (fun f w => match r73 with | (m59, m60, m61, m62, m63, m64, m65, m66, m67, m68, m69) => ∃ (H56 : Hp), f 2 = (ptr b1 0) ∧ f 3 = (ptr b8 0) ∧ St w0 H0 w H56 [.box b8 32 [(boo m59), (boo m60), (boo m61), (boo m62), (boo m63), (boo m64), (boo m65), (int m66), (int m67), (int m68), (int m69)], .box b1 32 [(boo false), (boo false), (boo false), (boo false), (boo false), (boo false), (boo false), (int 0), (int 0), (int 0), (int 0)]]) ?_ ?_
      · refine WP.block ?_
        refine WP.loopM (ref19_RequestControl_L0 r33) (fun s f w => match s with | (i_43, m45, m46, m47, m48, m49, m50, m51, m52, m53, m54, m55) => ∃ (H39 : Hp), f 2 = (ptr b1 0) ∧ f 3 = (ptr b8 0) ∧ f 4 = v34 ∧ f 5 = (int i_43) ∧ Sl (α := Str) H39 v34 r33 ∧ St w0 H0 w H39 [.box b8 32 [(boo m45), (boo m46), (boo m47), (boo m48), (boo m49), (boo m50), (boo m51), (int m52), (int m53), (int m54), (int m55)], .box b1 32 [(boo false), (boo false), (boo false), (boo false), (boo false), (boo false), (boo false), (int 0), (int 0), (int 0), (int 0)]]) (0, r3.fNoStore, r3.fNoCache, r3.fMustRevalidate, r3.fProxyRevalidate, r3.fPrivate, r3.fPublic, r3.fOnlyIfCached, r3.fMaxAge, r3.fSMaxAge, r3.fMinFresh, r3.fMaxStale) r73 hr74 ?_ ?_
        · exact ⟨H36, rfl, rfl, rfl, rfl, R38, S⟩
        · intro s f w hI y70 hy71 hy72
          obtain ⟨i_43, m45, m46, m47, m48, m49, m50, m51, m52, m53, m54, m55⟩ := s
          obtain ⟨H39, h40, h41, h42, h44, R38, S⟩ := hI
          refine WP.seq ?_
          refine WP.seq ?_
          refine WP.region ?_
          refine WL.valw (R.mv (v := (int i_43)) h44) ?_
          refine WL.valw (R.mv (v := v34) h42) ?_
          refine WL.valw (R.lenL (α := Str) (xs := r33) (H := H39) R38 rfl Tryd.underlying23) ?_
          refine WL.valw (R.lss rfl rfl) ?_
          refine WL.nil ?_
          rcases condE hy71 with ⟨hc75, hy71⟩ | ⟨hc75, hy71⟩
          · refine WP.condT rfl hc75 ?_
            refine WP.skip ?_
            refine WP.seq ?_
            refine WP.block ?_
            refine WP.region ?_
            refine WL.valw (R.fieldB h41 fld32_1) ?_
            refine WL.valw (R.loadB (i := 0) (v := (boo m46)) S rfl rfl lay4 rfl) ?_
            refine WL.valw (R.mv (v := (boo m46)) rfl) ?_
            obtain ⟨b86, hg77, hy71⟩ := bindE hy71
            refine WL.grpw 6 [22, 23, 24, 25, 26] 27 (boo b86) (fun w => ∃ H' : Hp, H39.le H' ∧ St w0 H0 w H' [.box b8 32 [(boo m45), (boo m46), (boo m47), (boo m48), (boo m49), (boo m50), (boo m51), (int m52), (int m53), (int m54), (int m55)], .box b1 32 [(boo false), (boo false), (boo false), (boo false), (boo false), (boo false), (boo false), (int 0), (int 0), (int 0), (int 0)]]) ?_ ?_
            · rcases boolE m46 with hb76 | hb76
              · replace hg77 := condT hg77 hb76
                refine WL.gno rfl rfl hb76 ?_
                refine WL.gno rfl rfl hb76 ?_
                refine WL.gno rfl rfl hb76 ?_
                refine WL.gno rfl rfl hb76 ?_
                refine WL.gno rfl rfl hb76 ?_
                refine WL.valw (R.pickT rfl hb76 rfl) ?_
                exact WL.nil ⟨(congrArg boo (Option.some.inj hg77)), (by repeat (first | refine agree_upd rfl ?_ | refine agree_upds' rfl ?_ | exact agree_refl)), ⟨H39, (Hp.le.refl _), S⟩⟩
              · replace hg77 := condF hg77 hb76
                refine WL.gyes rfl rfl hb76 ?_
                refine WL.valw (R.mv (v := v34) h42) ?_
                refine WL.gyes rfl rfl hb76 ?_
                refine WL.valw (R.mv (v := (int i_43)) h44) ?_
                refine WL.gyes rfl rfl hb76 ?_
                obtain ⟨x78, hx78, hg77⟩ := bindE hg77
                refine W.idx (α := Str) R38 rfl rfl el23 hx78 ?_
                rintro a79 _ hA80 rfl
                refine WL.gyes rfl rfl hb76 ?_
                refine WL.valw (R.loadH (v := (str x78)) S rfl hA80 lay9 rfl) ?_
                refine WL.gyes rfl rfl hb76 ?_
                obtain ⟨r81, hr81, hg77⟩ := bindE hg77
                refine W.call S rfl (ref01_Fold_ok S.holds x78 [110, 111, 45, 99, 97, 99, 104, 101] hr81) ?_
                rintro v82 w83 H84 hle85 S rfl
                have R38 := Sl.mono R38 hle85
                have hA80 := At.mono hA80 hle85 (by simp)
                refine WL.valw (R.pickF rfl hb76 rfl) ?_
                exact WL.nil ⟨(congrArg boo (Option.some.inj hg77)), (by repeat (first | refine agree_upd rfl ?_ | refine agree_upds' rfl ?_ | exact agree_refl)), ⟨H84, hle85, S⟩⟩
            · intro us w88 ⟨H87, hle89, S⟩
              have R38 := Sl.mono R38 hle89
              refine WL.valw (R.fieldB h41 fld32_1) ?_
              refine W.store (i := 0) [(boo m45), (boo b86), (boo m47), (boo m48), (boo m49), (boo m50), (boo m51), (int m52), (int m53), (int m54), (int m55)] S rfl rfl rfl lay4 rfl rfl (Nat.le_of_ble_eq_true rfl) rfl ?_
              intro w90 S
              refine WL.nil ?_
              refine WP.region ?_
              refine WL.valw (R.mv (v := (int i_43)) h44) ?_
              refine WL.valw (R.add rfl rfl) ?_
              refine WL.valw (R.as (v := (int (wr (i_43 + 1)))) rfl) ?_
              refine WL.nil ?_
              obtain rfl := Option.some.inj hy71
              exact ⟨rfl, ⟨H87, h40, h41, h42, rfl, R38, S⟩⟩
          · refine WP.condF rfl hc75 ?_
            refine WP.exit ?_
            obtain rfl := Option.some.inj hy71
            obtain rfl := hy72
            exact ⟨H39, h40, h41, S⟩
      · intro f w hM
        obtain ⟨m59, m60, m61, m62, m63, m64, m65, m66, m67, m68, m69⟩ := r73
        obtain ⟨H56, h57, h58, S⟩ := hM
        cases Option.some.inj hj30
        exact ⟨H56, h57, h58, S⟩
    · refine WP.condF rfl hc32 ?_
      refine WP.skip ?_
      cases Option.some.inj hj30
      exact ⟨H14, rfl, rfl, S⟩
  · rintro f w ⟨H16, h17, h18, S⟩
    refine WP.seq ?_
    refine WP.region ?_
    refine WL.valw (R.loadBN (i := 0) (vs := [(boo m19), (boo m20), (boo m21), (boo m22), (boo m23), (boo m24), (boo m25), (int m26), (int m27), (int m28), (int m29)]) S h18 rfl lay32 rfl rfl) ?_
    refine W.store (i := 1) [(boo m19), (boo m20), (boo m21), (boo m22), (boo m23), (boo m24), (boo m25), (int m26), (int m27), (int m28), (int m29)] S h17 rfl rfl lay32 rfl rfl (Nat.le_of_ble_eq_true rfl) rfl ?_
    intro w91 S
    refine WL.nil ?_
    obtain rfl := Option.some.inj h
    refine WP.ret (Out.one rfl S (Res.cellB (i := 1) (cs := [(boo m19), (boo m20), (boo m21), (boo m22), (boo m23), (boo m24), (boo m25), (int m26), (int m27), (int m28), (int m29)]) S h17 rfl lay32 rfl rfl) ?_)
    exact rfl
set_option maxRecDepth 10000 in
set_option maxHeartbeats 4000000 in
theorem law22_CachecontrolReads_ok {w0 : World} {H0 : Hp} (hw : Holds w0 H0) (p_l : (List GField)) {vp_l : Value} (Rp_l : Sl (α := GField) H0 vp_l p_l) {r : Bool} (h : law22_CachecontrolReads p_l = some r) :
    Con Tryd.prog 5 [vp_l] w0 H0 (fun H' v => v = (boo r)) := by
  refine Con.mk (N := 21) Tryd.func5 rfl rfl (by kernel_rfl) rfl ?_
  have S := St.start hw
  refine WP.seq ?_
  refine WP.region ?_
  refine WL.valw (R.as (v := (boo false)) rfl) ?_
  refine WL.nil ?_
  refine WP.seq ?_
  refine WP.seq ?_
  refine WP.region ?_
  refine WL.valw (R.mv (v := vp_l) rfl) ?_
  obtain ⟨r1, hr1, h⟩ := bindE h
  refine W.call S rfl (keep_Fields_ok S.holds p_l Rp_l hr1) ?_
  rintro v2 w3 H4 hle5 S rfl
  have Rp_l := Sl.mono Rp_l hle5
  refine WL.valw (R.not rfl) ?_
  refine WL.nil ?_
  rcases condE h with ⟨hc6, h⟩ | ⟨hc6, h⟩
  · refine WP.condT rfl hc6 ?_
    refine WP.seq ?_
    refine WP.region ?_
    refine WL.valw (R.as (v := (boo true)) rfl) ?_
    refine WL.nil ?_
    obtain rfl := Option.some.inj h
    refine WP.ret (Out.one rfl S rfl ?_)
    exact rfl
  · refine WP.condF rfl hc6 ?_
    refine WP.skip ?_
    refine WP.seq ?_
    refine WP.region ?_
    refine WL.valw (R.mv (v := vp_l) rfl) ?_
    obtain ⟨r7, hr7, h⟩ := bindE h
    refine W.call S rfl (cachecontrol_Response_ok S.holds p_l Rp_l hr7) ?_
    rintro v8 w9 H10 hle11 S rfl
    have Rp_l := Sl.mono Rp_l hle11
    refine WL.valw (R.mv (v := vp_l) rfl) ?_
    obtain ⟨r12, hr12, h⟩ := bindE h
    refine W.call S rfl (ref19_ResponseControl_ok S.holds p_l Rp_l hr12) ?_
    rintro v13 w14 H15 hle16 S rfl
    have Rp_l := Sl.mono Rp_l hle16
    refine WL.valw (R.eqlA ((r7.fNoStore == r12.fNoStore) && ((r7.fNoCache == r12.fNoCache) && ((r7.fMustRevalidate == r12.fMustRevalidate) && ((r7.fProxyRevalidate == r12.fProxyRevalidate) && ((r7.fPrivate == r12.fPrivate) && ((r7.fPublic == r12.fPublic) && ((r7.fOnlyIfCached == r12.fOnlyIfCached) && ((r7.fMaxAge == r12.fMaxAge) && ((r7.fSMaxAge == r12.fSMaxAge) && ((r7.fMinFresh == r12.fMinFresh) && ((r7.fMaxStale == r12.fMaxStale) && true))))))))))) rfl rfl ps32 fk32 rfl rfl rfl) ?_
    refine WL.valw (R.mv (v := (boo ((r7.fNoStore == r12.fNoStore) && ((r7.fNoCache == r12.fNoCache) && ((r7.fMustRevalidate == r12.fMustRevalidate) && ((r7.fProxyRevalidate == r12.fProxyRevalidate) && ((r7.fPrivate == r12.fPrivate) && ((r7.fPublic == r12.fPublic) && ((r7.fOnlyIfCached == r12.fOnlyIfCached) && ((r7.fMaxAge == r12.fMaxAge) && ((r7.fSMaxAge == r12.fSMaxAge) && ((r7.fMinFresh == r12.fMinFresh) && ((r7.fMaxStale == r12.fMaxStale) && true))))))))))))) rfl) ?_
    obtain ⟨b29, hg18, h⟩ := bindE h
    refine WL.grpw 6 [12, 13, 14, 15, 16] 17 (boo b29) (fun w => ∃ H' : Hp, H15.le H' ∧ St w0 H0 w H' []) ?_ ?_
    · rcases boolE ((r7.fNoStore == r12.fNoStore) && ((r7.fNoCache == r12.fNoCache) && ((r7.fMustRevalidate == r12.fMustRevalidate) && ((r7.fProxyRevalidate == r12.fProxyRevalidate) && ((r7.fPrivate == r12.fPrivate) && ((r7.fPublic == r12.fPublic) && ((r7.fOnlyIfCached == r12.fOnlyIfCached) && ((r7.fMaxAge == r12.fMaxAge) && ((r7.fSMaxAge == r12.fSMaxAge) && ((r7.fMinFresh == r12.fMinFresh) && ((r7.fMaxStale == r12.fMaxStale) && true))))))))))) with hb17 | hb17
      · replace hg18 := condT hg18 hb17
        refine WL.gyes rfl rfl hb17 ?_
        refine WL.valw (R.mv (v := vp_l) rfl) ?_
        refine WL.gyes rfl rfl hb17 ?_
        obtain ⟨r19, hr19, hg18⟩ := bindE hg18
        refine W.call S rfl (cachecontrol_Request_ok S.holds p_l Rp_l hr19) ?_
        rintro v20 w21 H22 hle23 S rfl
        have Rp_l := Sl.mono Rp_l hle23
        refine WL.gyes rfl rfl hb17 ?_
        refine WL.valw (R.mv (v := vp_l) rfl) ?_
        refine WL.gyes rfl rfl hb17 ?_
        obtain ⟨r24, hr24, hg18⟩ := bindE hg18
        refine W.call S rfl (ref19_RequestControl_ok S.holds p_l Rp_l hr24) ?_
        rintro v25 w26 H27 hle28 S rfl
        have Rp_l := Sl.mono Rp_l hle28
        refine WL.gyes rfl rfl hb17 ?_
        refine WL.valw (R.eqlA ((r19.fNoStore == r24.fNoStore) && ((r19.fNoCache == r24.fNoCache) && ((r19.fMustRevalidate == r24.fMustRevalidate) && ((r19.fProxyRevalidate == r24.fProxyRevalidate) && ((r19.fPrivate == r24.fPrivate) && ((r19.fPublic == r24.fPublic) && ((r19.fOnlyIfCached == r24.fOnlyIfCached) && ((r19.fMaxAge == r24.fMaxAge) && ((r19.fSMaxAge == r24.fSMaxAge) && ((r19.fMinFresh == r24.fMinFresh) && ((r19.fMaxStale == r24.fMaxStale) && true))))))))))) rfl rfl ps32 fk32 rfl rfl rfl) ?_
        refine WL.valw (R.pickT rfl hb17 rfl) ?_
        exact WL.nil ⟨(congrArg boo (Option.some.inj hg18)), (by repeat (first | refine agree_upd rfl ?_ | refine agree_upds' rfl ?_ | exact agree_refl)), ⟨H27, (hle23.trans hle28), S⟩⟩
      · replace hg18 := condF hg18 hb17
        refine WL.gno rfl rfl hb17 ?_
        refine WL.gno rfl rfl hb17 ?_
        refine WL.gno rfl rfl hb17 ?_
        refine WL.gno rfl rfl hb17 ?_
        refine WL.gno rfl rfl hb17 ?_
        refine WL.valw (R.pickF rfl hb17 rfl) ?_
        exact WL.nil ⟨(congrArg boo (Option.some.inj hg18)), (by repeat (first | refine agree_upd rfl ?_ | refine agree_upds' rfl ?_ | exact agree_refl)), ⟨H15, (Hp.le.refl _), S⟩⟩
    · intro us w31 ⟨H30, hle32, S⟩
      have Rp_l := Sl.mono Rp_l hle32
      refine WL.valw (R.mv (v := (boo b29)) rfl) ?_
      obtain ⟨b40, hg34, h⟩ := bindE h
      refine WL.grpw 2 [19] 20 (boo b40) (fun w => ∃ H' : Hp, H30.le H' ∧ St w0 H0 w H' []) ?_ ?_
      · rcases boolE b29 with hb33 | hb33
        · replace hg34 := condT hg34 hb33
          refine WL.gyes rfl rfl hb33 ?_
          obtain ⟨r35, hr35, hg34⟩ := bindE hg34
          refine W.call S rfl (law22_awake_ok S.holds  hr35) ?_
          rintro v36 w37 H38 hle39 S rfl
          have Rp_l := Sl.mono Rp_l hle39
          refine WL.valw (R.pickT rfl hb33 rfl) ?_
          exact WL.nil ⟨(congrArg boo (Option.some.inj hg34)), (by repeat (first | refine agree_upd rfl ?_ | refine agree_upds' rfl ?_ | exact agree_refl)), ⟨H38, hle39, S⟩⟩
        · replace hg34 := condF hg34 hb33
          refine WL.gno rfl rfl hb33 ?_
          refine WL.valw (R.pickF rfl hb33 rfl) ?_
          exact WL.nil ⟨(congrArg boo (Option.some.inj hg34)), (by repeat (first | refine agree_upd rfl ?_ | refine agree_upds' rfl ?_ | exact agree_refl)), ⟨H30, (Hp.le.refl _), S⟩⟩
      · intro us w42 ⟨H41, hle43, S⟩
        have Rp_l := Sl.mono Rp_l hle43
        refine WL.valw (R.as (v := (boo b40)) rfl) ?_
        refine WL.nil ?_
        obtain rfl := Option.some.inj h
        refine WP.ret (Out.one rfl S rfl ?_)
        exact rfl
set_option maxRecDepth 10000 in
set_option maxHeartbeats 4000000 in
theorem law22_CachecontrolOverflow_ok {w0 : World} {H0 : Hp} (hw : Holds w0 H0) (p_more : Int) (p_word : Str) {r : Bool} (h : law22_CachecontrolOverflow p_more p_word = some r) :
    Con Tryd.prog 6 [(int p_more), (str p_word)] w0 H0 (fun H' v => v = (boo r)) := by
  refine Con.mk (N := 49) Tryd.func6 rfl rfl (by kernel_rfl) rfl ?_
  have S := St.start hw
  refine WP.seq ?_
  refine WP.region ?_
  refine WL.valw (R.as (v := (boo false)) rfl) ?_
  refine WL.nil ?_
  refine WP.seq ?_
  refine WP.seq ?_
  refine WP.region ?_
  refine WL.valw (R.mv (v := (int p_more)) rfl) ?_
  refine WL.valw (R.lss rfl rfl) ?_
  refine WL.valw (R.mv (v := (boo (decide (p_more < 0)))) rfl) ?_
  refine WL.grp 3 [10, 11] 12 (boo ((decide (p_more < 0)) || (decide (20 < p_more)))) ?_ ?_
  · rcases boolE (decide (p_more < 0)) with hb1 | hb1
    · refine WL.gno rfl rfl hb1 ?_
      refine WL.gno rfl rfl hb1 ?_
      refine WL.valw (R.pickT rfl hb1 rfl) ?_
      exact WL.nil ⟨(orT hb1), (by repeat (first | refine agree_upd rfl ?_ | refine agree_upds' rfl ?_ | exact agree_refl)), rfl⟩
    · refine WL.gyes rfl rfl hb1 ?_
      refine WL.valw (R.mv (v := (int p_more)) rfl) ?_
      refine WL.gyes rfl rfl hb1 ?_
      refine WL.valw (R.gtr rfl rfl) ?_
      refine WL.valw (R.pickF rfl hb1 rfl) ?_
      exact WL.nil ⟨(orF hb1), (by repeat (first | refine agree_upd rfl ?_ | refine agree_upds' rfl ?_ | exact agree_refl)), rfl⟩
  · intro us
    refine WL.valw (R.mv (v := (boo ((decide (p_more < 0)) || (decide (20 < p_more))))) rfl) ?_
    refine WL.grp 4 [14, 15, 16] 17 (boo (((decide (p_more < 0)) || (decide (20 < p_more))) || (decide (20 < (p_word.length : Int))))) ?_ ?_
    · rcases boolE ((decide (p_more < 0)) || (decide (20 < p_more))) with hb3 | hb3
      · refine WL.gno rfl rfl hb3 ?_
        refine WL.gno rfl rfl hb3 ?_
        refine WL.gno rfl rfl hb3 ?_
        refine WL.valw (R.pickT rfl hb3 rfl) ?_
        exact WL.nil ⟨(orT hb3), (by repeat (first | refine agree_upd rfl ?_ | refine agree_upds' rfl ?_ | exact agree_refl)), rfl⟩
      · refine WL.gyes rfl rfl hb3 ?_
        refine WL.valw (R.mv (v := (str p_word)) rfl) ?_
        refine WL.gyes rfl rfl hb3 ?_
        refine WL.valw (R.lenS (a := p_word) rfl Tryd.underlying9) ?_
        refine WL.gyes rfl rfl hb3 ?_
        refine WL.valw (R.gtr rfl rfl) ?_
        refine WL.valw (R.pickF rfl hb3 rfl) ?_
        exact WL.nil ⟨(orF hb3), (by repeat (first | refine agree_upd rfl ?_ | refine agree_upds' rfl ?_ | exact agree_refl)), rfl⟩
    · intro us
      refine WL.valw (R.mv (v := (boo (((decide (p_more < 0)) || (decide (20 < p_more))) || (decide (20 < (p_word.length : Int)))))) rfl) ?_
      obtain ⟨b12, hg6, h⟩ := bindE h
      refine WL.grpw 4 [19, 20, 21] 22 (boo b12) (fun w => ∃ H' : Hp, H0.le H' ∧ St w0 H0 w H' []) ?_ ?_
      · rcases boolE (((decide (p_more < 0)) || (decide (20 < p_more))) || (decide (20 < (p_word.length : Int)))) with hb5 | hb5
        · replace hg6 := condT hg6 hb5
          refine WL.gno rfl rfl hb5 ?_
          refine WL.gno rfl rfl hb5 ?_
          refine WL.gno rfl rfl hb5 ?_
          refine WL.valw (R.pickT rfl hb5 rfl) ?_
          exact WL.nil ⟨(congrArg boo (Option.some.inj hg6)), (by repeat (first | refine agree_upd rfl ?_ | refine agree_upds' rfl ?_ | exact agree_refl)), ⟨H0, (Hp.le.refl _), S⟩⟩
        · replace hg6 := condF hg6 hb5
          refine WL.gyes rfl rfl hb5 ?_
          refine WL.valw (R.mv (v := (str p_word)) rfl) ?_
          refine WL.gyes rfl rfl hb5 ?_
          obtain ⟨r7, hr7, hg6⟩ := bindE hg6
          refine W.call S rfl (ref01_Token_ok S.holds p_word hr7) ?_
          rintro v8 w9 H10 hle11 S rfl
          refine WL.gyes rfl rfl hb5 ?_
          refine WL.valw (R.not rfl) ?_
          refine WL.valw (R.pickF rfl hb5 rfl) ?_
          exact WL.nil ⟨(congrArg boo (Option.some.inj hg6)), (by repeat (first | refine agree_upd rfl ?_ | refine agree_upds' rfl ?_ | exact agree_refl)), ⟨H10, hle11, S⟩⟩
      · intro us w14 ⟨H13, hle15, S⟩
        refine WL.nil ?_
        rcases condE h with ⟨hc16, h⟩ | ⟨hc16, h⟩
        · refine WP.condT rfl hc16 ?_
          refine WP.seq ?_
          refine WP.region ?_
          refine WL.valw (R.as (v := (boo true)) rfl) ?_
          refine WL.nil ?_
          obtain rfl := Option.some.inj h
          refine WP.ret (Out.one rfl S rfl ?_)
          exact rfl
        · refine WP.condF rfl hc16 ?_
          refine WP.skip ?_
          refine WP.seq ?_
          refine WP.region ?_
          refine WL.valw (R.mv (v := (str p_word)) rfl) ?_
          refine WL.valw (R.as (v := (str p_word)) rfl) ?_
          refine WL.nil ?_
          refine WP.seq ?_
          refine WP.seq ?_
          refine WP.region ?_
          refine WL.valw (R.as (v := (int 1)) rfl) ?_
          refine WL.nil ?_
          obtain ⟨s_25, hr31, h⟩ := bindE h
          refine WP.cut (fun f w => ∃ (H24 : Hp), f 5 = (str s_25) ∧ St w0 H0 w H24 []) ?_ ?_
          · refine WP.block ?_
            refine WP.loopM (law22_CachecontrolOverflow_L0 p_more p_word) (fun s f w => match s with | (s_20, i_22) => ∃ (H17 : Hp), f 0 = (int p_more) ∧ f 1 = (str p_word) ∧ f 5 = (str s_20) ∧ f 6 = (int i_22) ∧ St w0 H0 w H17 []) (p_word, 1) s_25 hr31 ?_ ?_
            · exact ⟨H13, rfl, rfl, rfl, rfl, S⟩
            · intro s f w hI y27 hy28 hy29
              obtain ⟨s_20, i_22⟩ := s
              obtain ⟨H17, h18, h19, h21, h23, S⟩ := hI
              refine WP.seq ?_
              refine WP.seq ?_
              refine WP.region ?_
              refine WL.valw (R.mv (v := (int i_22)) h23) ?_
              refine WL.valw (R.mv (v := (int p_more)) h18) ?_
              refine WL.valw (R.add rfl rfl) ?_
              refine WL.valw (R.lss rfl rfl) ?_
              refine WL.nil ?_
              rcases condE hy28 with ⟨hc32, hy28⟩ | ⟨hc32, hy28⟩
              · refine WP.condT rfl hc32 ?_
                refine WP.skip ?_
                refine WP.seq ?_
                refine WP.block ?_
                refine WP.region ?_
                refine WL.valw (R.mv (v := (str s_20)) h21) ?_
                refine WL.valw (R.mv (v := (str p_word)) h19) ?_
                obtain ⟨s33, hs33, hy28⟩ := bindE hy28
                refine WL.valw (R.cat (a := [44]) (b := p_word) rfl rfl hs33) ?_
                obtain ⟨s34, hs34, hy28⟩ := bindE hy28
                refine WL.valw (R.cat (a := s_20) (b := s33) rfl rfl hs34) ?_
                refine WL.valw (R.as (v := (str s34)) rfl) ?_
                refine WL.nil ?_
                refine WP.region ?_
                refine WL.valw (R.mv (v := (int i_22)) h23) ?_
                refine WL.valw (R.add rfl rfl) ?_
                refine WL.valw (R.as (v := (int (wr (i_22 + 1)))) rfl) ?_
                refine WL.nil ?_
                obtain rfl := Option.some.inj hy28
                exact ⟨rfl, ⟨H17, h18, h19, rfl, rfl, S⟩⟩
              · refine WP.condF rfl hc32 ?_
                refine WP.exit ?_
                obtain rfl := Option.some.inj hy28
                obtain rfl := hy29
                exact ⟨H17, h21, S⟩
          · rintro f w ⟨H24, h26, S⟩
            refine WP.seq ?_
            refine WP.region ?_
            refine WL.valw (R.mv (v := (str s_25)) h26) ?_
            refine WL.valw (R.build [(0, (str [67, 97, 99, 104, 101, 45, 67, 111, 110, 116, 114, 111, 108])), (1, (str s_25))] [(str [67, 97, 99, 104, 101, 45, 67, 111, 110, 116, 114, 111, 108]), (str s_25)] bp26 zer26 rfl rfl) ?_
            refine W.bslice (α := GField) [(agg [(str [67, 97, 99, 104, 101, 45, 67, 111, 110, 116, 114, 111, 108]), (str s_25)])] ([(⟨[67, 97, 99, 104, 101, 45, 67, 111, 110, 116, 114, 111, 108], s_25⟩ : GField)] : List GField) S el27 rfl rfl rfl (by decide) (encS ⟨rfl, rfl⟩ enc0) ?_
            intro u35 w36 H37 hle38 R39 S
            obtain ⟨r40, hr40, h⟩ := bindE h
            refine W.call S rfl (cachecontrol_Response_ok S.holds ([(⟨[67, 97, 99, 104, 101, 45, 67, 111, 110, 116, 114, 111, 108], s_25⟩ : GField)] : List GField) R39 hr40) ?_
            rintro v41 w42 H43 hle44 S rfl
            have R39 := Sl.mono R39 hle44
            refine WL.valw (v := (boo r40.fNoStore)) (R.fieldV (cs := [(boo r40.fNoStore), (boo r40.fNoCache), (boo r40.fMustRevalidate), (boo r40.fProxyRevalidate), (boo r40.fPrivate), (boo r40.fPublic), (boo r40.fOnlyIfCached), (int r40.fMaxAge), (int r40.fSMaxAge), (int r40.fMinFresh), (int r40.fMaxStale)]) rfl fty32_0 lay4 rfl) ?_
            refine WL.valw (R.mv (v := (boo r40.fNoStore)) rfl) ?_
            obtain ⟨b57, hg46, h⟩ := bindE h
            refine WL.grpw 6 [40, 41, 42, 43, 44] 45 (boo b57) (fun w => ∃ H' : Hp, H43.le H' ∧ St w0 H0 w H' [.row u35 26 2 ([(⟨[67, 97, 99, 104, 101, 45, 67, 111, 110, 116, 114, 111, 108], s_25⟩ : GField)] : List GField).length]) ?_ ?_
            · rcases boolE r40.fNoStore with hb45 | hb45
              · replace hg46 := condT hg46 hb45
                refine WL.gyes rfl rfl hb45 ?_
                refine WL.valw (R.mv (v := (str s_25)) h26) ?_
                refine WL.gyes rfl rfl hb45 ?_
                refine WL.valw (R.build [(0, (str [67, 97, 99, 104, 101, 45, 67, 111, 110, 116, 114, 111, 108])), (1, (str s_25))] [(str [67, 97, 99, 104, 101, 45, 67, 111, 110, 116, 114, 111, 108]), (str s_25)] bp26 zer26 rfl rfl) ?_
                refine WL.gyes rfl rfl hb45 ?_
                refine W.bslice (α := GField) [(agg [(str [67, 97, 99, 104, 101, 45, 67, 111, 110, 116, 114, 111, 108]), (str s_25)])] ([(⟨[67, 97, 99, 104, 101, 45, 67, 111, 110, 116, 114, 111, 108], s_25⟩ : GField)] : List GField) S el27 rfl rfl rfl (by decide) (encS ⟨rfl, rfl⟩ enc0) ?_
                intro u47 w48 H49 hle50 R51 S
                have R39 := Sl.mono R39 hle50
                refine WL.gyes rfl rfl hb45 ?_
                obtain ⟨r52, hr52, hg46⟩ := bindE hg46
                refine W.call S rfl (cachecontrol_Request_ok S.holds ([(⟨[67, 97, 99, 104, 101, 45, 67, 111, 110, 116, 114, 111, 108], s_25⟩ : GField)] : List GField) R51 hr52) ?_
                rintro v53 w54 H55 hle56 S rfl
                have R39 := Sl.mono R39 hle56
                have R51 := Sl.mono R51 hle56
                refine WL.gyes rfl rfl hb45 ?_
                refine WL.valw (v := (boo r52.fNoStore)) (R.fieldV (cs := [(boo r52.fNoStore), (boo r52.fNoCache), (boo r52.fMustRevalidate), (boo r52.fProxyRevalidate), (boo r52.fPrivate), (boo r52.fPublic), (boo r52.fOnlyIfCached), (int r52.fMaxAge), (int r52.fSMaxAge), (int r52.fMinFresh), (int r52.fMaxStale)]) rfl fty32_0 lay4 rfl) ?_
                refine WL.valw (R.pickT rfl hb45 rfl) ?_
                exact WL.nil ⟨(congrArg boo (Option.some.inj hg46)), (by repeat (first | refine agree_upd rfl ?_ | refine agree_upds' rfl ?_ | exact agree_refl)), ⟨H55, (hle50.trans hle56), (S.drop _ (.cons _ (.cons_cons _ .slnil)))⟩⟩
              · replace hg46 := condF hg46 hb45
                refine WL.gno rfl rfl hb45 ?_
                refine WL.gno rfl rfl hb45 ?_
                refine WL.gno rfl rfl hb45 ?_
                refine WL.gno rfl rfl hb45 ?_
                refine WL.gno rfl rfl hb45 ?_
                refine WL.valw (R.pickF rfl hb45 rfl) ?_
                exact WL.nil ⟨(congrArg boo (Option.some.inj hg46)), (by repeat (first | refine agree_upd rfl ?_ | refine agree_upds' rfl ?_ | exact agree_refl)), ⟨H43, (Hp.le.refl _), S⟩⟩
            · intro us w59 ⟨H58, hle60, S⟩
              have R39 := Sl.mono R39 hle60
              refine WL.valw (R.mv (v := (boo b57)) rfl) ?_
              obtain ⟨b68, hg62, h⟩ := bindE h
              refine WL.grpw 2 [47] 48 (boo b68) (fun w => ∃ H' : Hp, H58.le H' ∧ St w0 H0 w H' [.row u35 26 2 ([(⟨[67, 97, 99, 104, 101, 45, 67, 111, 110, 116, 114, 111, 108], s_25⟩ : GField)] : List GField).length]) ?_ ?_
              · rcases boolE b57 with hb61 | hb61
                · replace hg62 := condT hg62 hb61
                  refine WL.gyes rfl rfl hb61 ?_
                  obtain ⟨r63, hr63, hg62⟩ := bindE hg62
                  refine W.call S rfl (law22_awake_ok S.holds  hr63) ?_
                  rintro v64 w65 H66 hle67 S rfl
                  have R39 := Sl.mono R39 hle67
                  refine WL.valw (R.pickT rfl hb61 rfl) ?_
                  exact WL.nil ⟨(congrArg boo (Option.some.inj hg62)), (by repeat (first | refine agree_upd rfl ?_ | refine agree_upds' rfl ?_ | exact agree_refl)), ⟨H66, hle67, S⟩⟩
                · replace hg62 := condF hg62 hb61
                  refine WL.gno rfl rfl hb61 ?_
                  refine WL.valw (R.pickF rfl hb61 rfl) ?_
                  exact WL.nil ⟨(congrArg boo (Option.some.inj hg62)), (by repeat (first | refine agree_upd rfl ?_ | refine agree_upds' rfl ?_ | exact agree_refl)), ⟨H58, (Hp.le.refl _), S⟩⟩
              · intro us w70 ⟨H69, hle71, S⟩
                have R39 := Sl.mono R39 hle71
                refine WL.valw (R.as (v := (boo b68)) rfl) ?_
                refine WL.nil ?_
                obtain rfl := Option.some.inj h
                refine WP.ret (Out.one rfl S rfl ?_)
                exact rfl
set_option maxRecDepth 10000 in
set_option maxHeartbeats 4000000 in
theorem law22_CachecontrolPragma_ok {w0 : World} {H0 : Hp} (hw : Holds w0 H0) (p_l : (List GField)) (p_value : Str) {vp_l : Value} (Rp_l : Sl (α := GField) H0 vp_l p_l) {r : Bool} (h : law22_CachecontrolPragma p_l p_value = some r) :
    Con Tryd.prog 7 [vp_l, (str p_value)] w0 H0 (fun H' v => v = (boo r)) := by
  refine Con.mk (N := 54) Tryd.func7 rfl rfl (by kernel_rfl) rfl ?_
  have S := St.start hw
  refine WP.seq ?_
  refine WP.region ?_
  refine WL.valw (R.as (v := (boo false)) rfl) ?_
  refine WL.nil ?_
  refine WP.seq ?_
  refine WP.seq ?_
  refine WP.region ?_
  refine WL.valw (R.mv (v := vp_l) rfl) ?_
  obtain ⟨r1, hr1, h⟩ := bindE h
  refine W.call S rfl (keep_Fields_ok S.holds p_l Rp_l hr1) ?_
  rintro v2 w3 H4 hle5 S rfl
  have Rp_l := Sl.mono Rp_l hle5
  refine WL.valw (R.not rfl) ?_
  refine WL.valw (R.mv (v := (boo (!r1))) rfl) ?_
  refine WL.grp 4 [10, 11, 12] 13 (boo ((!r1) || (decide (100 < (p_value.length : Int))))) ?_ ?_
  · rcases boolE (!r1) with hb6 | hb6
    · refine WL.gno rfl rfl hb6 ?_
      refine WL.gno rfl rfl hb6 ?_
      refine WL.gno rfl rfl hb6 ?_
      refine WL.valw (R.pickT rfl hb6 rfl) ?_
      exact WL.nil ⟨(orT hb6), (by repeat (first | refine agree_upd rfl ?_ | refine agree_upds' rfl ?_ | exact agree_refl)), rfl⟩
    · refine WL.gyes rfl rfl hb6 ?_
      refine WL.valw (R.mv (v := (str p_value)) rfl) ?_
      refine WL.gyes rfl rfl hb6 ?_
      refine WL.valw (R.lenS (a := p_value) rfl Tryd.underlying9) ?_
      refine WL.gyes rfl rfl hb6 ?_
      refine WL.valw (R.gtr rfl rfl) ?_
      refine WL.valw (R.pickF rfl hb6 rfl) ?_
      exact WL.nil ⟨(orF hb6), (by repeat (first | refine agree_upd rfl ?_ | refine agree_upds' rfl ?_ | exact agree_refl)), rfl⟩
  · intro us
    refine WL.nil ?_
    rcases condE h with ⟨hc8, h⟩ | ⟨hc8, h⟩
    · refine WP.condT rfl hc8 ?_
      refine WP.seq ?_
      refine WP.region ?_
      refine WL.valw (R.as (v := (boo true)) rfl) ?_
      refine WL.nil ?_
      obtain rfl := Option.some.inj h
      refine WP.ret (Out.one rfl S rfl ?_)
      exact rfl
    · refine WP.condF rfl hc8 ?_
      refine WP.skip ?_
      refine WP.seq ?_
      refine WP.region ?_
      refine WL.valw (R.mv (v := vp_l) rfl) ?_
      have S := S.addNil 26 2
      obtain ⟨l9, hl9, h⟩ := bindE h
      refine W.app (α := GField) (i := 0) S el27 rfl rfl rfl Sl.nil Rp_l hl9 ?_
      intro v10 w11 H12 hle13 R14 S
      have Rp_l := Sl.mono Rp_l hle13
      refine WL.valw (R.mv (v := (str p_value)) rfl) ?_
      refine WL.valw (R.build [(0, (str [80, 114, 97, 103, 109, 97])), (1, (str p_value))] [(str [80, 114, 97, 103, 109, 97]), (str p_value)] bp26 zer26 rfl rfl) ?_
      refine W.bslice (α := GField) [(agg [(str [80, 114, 97, 103, 109, 97]), (str p_value)])] ([(⟨[80, 114, 97, 103, 109, 97], p_value⟩ : GField)] : List GField) S el27 rfl rfl rfl (by decide) (encS ⟨rfl, rfl⟩ enc0) ?_
      intro u15 w16 H17 hle18 R19 S
      have Rp_l := Sl.mono Rp_l hle18
      have R14 := Sl.mono R14 hle18
      obtain ⟨l20, hl20, h⟩ := bindE h
      refine W.app (α := GField) (i := 1) S el27 rfl rfl rfl R14 R19 hl20 ?_
      intro v21 w22 H23 hle24 R25 S
      have Rp_l := Sl.mono Rp_l hle24
      have R14 := Sl.mono R14 hle24
      have R19 := Sl.mono R19 hle24
      refine WL.valw (R.as (v := v21) rfl) ?_
      refine WL.nil ?_
      refine WP.seq ?_
      refine WP.seq ?_
      refine WP.region ?_
      refine WL.valw (R.mv (v := vp_l) rfl) ?_
      obtain ⟨r26, hr26, h⟩ := bindE h
      refine W.call S rfl (ref01_Has_ok S.holds p_l [67, 97, 99, 104, 101, 45, 67, 111, 110, 116, 114, 111, 108] Rp_l hr26) ?_
      rintro v27 w28 H29 hle30 S rfl
      have Rp_l := Sl.mono Rp_l hle30
      have R14 := Sl.mono R14 hle30
      have R19 := Sl.mono R19 hle30
      have R25 := Sl.mono R25 hle30
      refine WL.nil ?_
      rcases condE h with ⟨hc31, h⟩ | ⟨hc31, h⟩
      · refine WP.condT rfl hc31 ?_
        refine WP.seq ?_
        refine WP.region ?_
        refine WL.valw (R.mv (v := v21) rfl) ?_
        obtain ⟨r32, hr32, h⟩ := bindE h
        refine W.call S rfl (cachecontrol_Request_ok S.holds l20 R25 hr32) ?_
        rintro v33 w34 H35 hle36 S rfl
        have Rp_l := Sl.mono Rp_l hle36
        have R14 := Sl.mono R14 hle36
        have R19 := Sl.mono R19 hle36
        have R25 := Sl.mono R25 hle36
        refine WL.valw (R.mv (v := vp_l) rfl) ?_
        obtain ⟨r37, hr37, h⟩ := bindE h
        refine W.call S rfl (cachecontrol_Request_ok S.holds p_l Rp_l hr37) ?_
        rintro v38 w39 H40 hle41 S rfl
        have Rp_l := Sl.mono Rp_l hle41
        have R14 := Sl.mono R14 hle41
        have R19 := Sl.mono R19 hle41
        have R25 := Sl.mono R25 hle41
        refine WL.valw (R.eqlA ((r32.fNoStore == r37.fNoStore) && ((r32.fNoCache == r37.fNoCache) && ((r32.fMustRevalidate == r37.fMustRevalidate) && ((r32.fProxyRevalidate == r37.fProxyRevalidate) && ((r32.fPrivate == r37.fPrivate) && ((r32.fPublic == r37.fPublic) && ((r32.fOnlyIfCached == r37.fOnlyIfCached) && ((r32.fMaxAge == r37.fMaxAge) && ((r32.fSMaxAge == r37.fSMaxAge) && ((r32.fMinFresh == r37.fMinFresh) && ((r32.fMaxStale == r37.fMaxStale) && true))))))))))) rfl rfl ps32 fk32 rfl rfl rfl) ?_
        refine WL.valw (R.mv (v := (boo ((r32.fNoStore == r37.fNoStore) && ((r32.fNoCache == r37.fNoCache) && ((r32.fMustRevalidate == r37.fMustRevalidate) && ((r32.fProxyRevalidate == r37.fProxyRevalidate) && ((r32.fPrivate == r37.fPrivate) && ((r32.fPublic == r37.fPublic) && ((r32.fOnlyIfCached == r37.fOnlyIfCached) && ((r32.fMaxAge == r37.fMaxAge) && ((r32.fSMaxAge == r37.fSMaxAge) && ((r32.fMinFresh == r37.fMinFresh) && ((r32.fMaxStale == r37.fMaxStale) && true))))))))))))) rfl) ?_
        obtain ⟨b49, hg43, h⟩ := bindE h
        refine WL.grpw 2 [28] 29 (boo b49) (fun w => ∃ H' : Hp, H40.le H' ∧ St w0 H0 w H' [.row u15 26 2 ([(⟨[80, 114, 97, 103, 109, 97], p_value⟩ : GField)] : List GField).length, .row v21 26 2 l20.length]) ?_ ?_
        · rcases boolE ((r32.fNoStore == r37.fNoStore) && ((r32.fNoCache == r37.fNoCache) && ((r32.fMustRevalidate == r37.fMustRevalidate) && ((r32.fProxyRevalidate == r37.fProxyRevalidate) && ((r32.fPrivate == r37.fPrivate) && ((r32.fPublic == r37.fPublic) && ((r32.fOnlyIfCached == r37.fOnlyIfCached) && ((r32.fMaxAge == r37.fMaxAge) && ((r32.fSMaxAge == r37.fSMaxAge) && ((r32.fMinFresh == r37.fMinFresh) && ((r32.fMaxStale == r37.fMaxStale) && true))))))))))) with hb42 | hb42
          · replace hg43 := condT hg43 hb42
            refine WL.gyes rfl rfl hb42 ?_
            obtain ⟨r44, hr44, hg43⟩ := bindE hg43
            refine W.call S rfl (law22_awake_ok S.holds  hr44) ?_
            rintro v45 w46 H47 hle48 S rfl
            have Rp_l := Sl.mono Rp_l hle48
            have R14 := Sl.mono R14 hle48
            have R19 := Sl.mono R19 hle48
            have R25 := Sl.mono R25 hle48
            refine WL.valw (R.pickT rfl hb42 rfl) ?_
            exact WL.nil ⟨(congrArg boo (Option.some.inj hg43)), (by repeat (first | refine agree_upd rfl ?_ | refine agree_upds' rfl ?_ | exact agree_refl)), ⟨H47, hle48, S⟩⟩
          · replace hg43 := condF hg43 hb42
            refine WL.gno rfl rfl hb42 ?_
            refine WL.valw (R.pickF rfl hb42 rfl) ?_
            exact WL.nil ⟨(congrArg boo (Option.some.inj hg43)), (by repeat (first | refine agree_upd rfl ?_ | refine agree_upds' rfl ?_ | exact agree_refl)), ⟨H40, (Hp.le.refl _), S⟩⟩
        · intro us w51 ⟨H50, hle52, S⟩
          have Rp_l := Sl.mono Rp_l hle52
          have R14 := Sl.mono R14 hle52
          have R19 := Sl.mono R19 hle52
          have R25 := Sl.mono R25 hle52
          refine WL.valw (R.as (v := (boo b49)) rfl) ?_
          refine WL.nil ?_
          obtain rfl := Option.some.inj h
          refine WP.ret (Out.one rfl S rfl ?_)
          exact rfl
      · refine WP.condF rfl hc31 ?_
        refine WP.skip ?_
        refine WP.seq ?_
        refine WP.region ?_
        refine WL.valw (R.mv (v := v21) rfl) ?_
        obtain ⟨r53, hr53, h⟩ := bindE h
        refine W.call S rfl (cachecontrol_Response_ok S.holds l20 R25 hr53) ?_
        rintro v54 w55 H56 hle57 S rfl
        have Rp_l := Sl.mono Rp_l hle57
        have R14 := Sl.mono R14 hle57
        have R19 := Sl.mono R19 hle57
        have R25 := Sl.mono R25 hle57
        refine WL.valw (R.mv (v := vp_l) rfl) ?_
        obtain ⟨r58, hr58, h⟩ := bindE h
        refine W.call S rfl (cachecontrol_Response_ok S.holds p_l Rp_l hr58) ?_
        rintro v59 w60 H61 hle62 S rfl
        have Rp_l := Sl.mono Rp_l hle62
        have R14 := Sl.mono R14 hle62
        have R19 := Sl.mono R19 hle62
        have R25 := Sl.mono R25 hle62
        refine WL.valw (R.eqlA ((r53.fNoStore == r58.fNoStore) && ((r53.fNoCache == r58.fNoCache) && ((r53.fMustRevalidate == r58.fMustRevalidate) && ((r53.fProxyRevalidate == r58.fProxyRevalidate) && ((r53.fPrivate == r58.fPrivate) && ((r53.fPublic == r58.fPublic) && ((r53.fOnlyIfCached == r58.fOnlyIfCached) && ((r53.fMaxAge == r58.fMaxAge) && ((r53.fSMaxAge == r58.fSMaxAge) && ((r53.fMinFresh == r58.fMinFresh) && ((r53.fMaxStale == r58.fMaxStale) && true))))))))))) rfl rfl ps32 fk32 rfl rfl rfl) ?_
        refine WL.valw (R.mv (v := (boo ((r53.fNoStore == r58.fNoStore) && ((r53.fNoCache == r58.fNoCache) && ((r53.fMustRevalidate == r58.fMustRevalidate) && ((r53.fProxyRevalidate == r58.fProxyRevalidate) && ((r53.fPrivate == r58.fPrivate) && ((r53.fPublic == r58.fPublic) && ((r53.fOnlyIfCached == r58.fOnlyIfCached) && ((r53.fMaxAge == r58.fMaxAge) && ((r53.fSMaxAge == r58.fSMaxAge) && ((r53.fMinFresh == r58.fMinFresh) && ((r53.fMaxStale == r58.fMaxStale) && true))))))))))))) rfl) ?_
        obtain ⟨b93, hg64, h⟩ := bindE h
        refine WL.grpw 15 [36, 37, 38, 39, 40, 41, 42, 43, 44, 45, 46, 47, 48, 49] 50 (boo b93) (fun w => ∃ H' : Hp, H61.le H' ∧ St w0 H0 w H' [.row u15 26 2 ([(⟨[80, 114, 97, 103, 109, 97], p_value⟩ : GField)] : List GField).length, .row v21 26 2 l20.length]) ?_ ?_
        · rcases boolE ((r53.fNoStore == r58.fNoStore) && ((r53.fNoCache == r58.fNoCache) && ((r53.fMustRevalidate == r58.fMustRevalidate) && ((r53.fProxyRevalidate == r58.fProxyRevalidate) && ((r53.fPrivate == r58.fPrivate) && ((r53.fPublic == r58.fPublic) && ((r53.fOnlyIfCached == r58.fOnlyIfCached) && ((r53.fMaxAge == r58.fMaxAge) && ((r53.fSMaxAge == r58.fSMaxAge) && ((r53.fMinFresh == r58.fMinFresh) && ((r53.fMaxStale == r58.fMaxStale) && true))))))))))) with hb63 | hb63
          · replace hg64 := condT hg64 hb63
            refine WL.gyes rfl rfl hb63 ?_
            refine WL.valw (R.mv (v := (str p_value)) rfl) ?_
            refine WL.gyes rfl rfl hb63 ?_
            obtain ⟨r65, hr65, hg64⟩ := bindE hg64
            refine W.call S rfl (ref01_Fold_ok S.holds p_value [110, 111, 45, 99, 97, 99, 104, 101] hr65) ?_
            rintro v66 w67 H68 hle69 S rfl
            have Rp_l := Sl.mono Rp_l hle69
            have R14 := Sl.mono R14 hle69
            have R19 := Sl.mono R19 hle69
            have R25 := Sl.mono R25 hle69
            refine WL.gyes rfl rfl hb63 ?_
            refine WL.valw (R.not rfl) ?_
            refine WL.gyes rfl rfl hb63 ?_
            refine WL.valw (R.mv (v := (boo (!r65))) rfl) ?_
            obtain ⟨b78, hg71, hg64⟩ := bindE hg64
            refine WL.grpw 5 [40, 41, 42, 43] 44 (boo b78) (fun w => ∃ H' : Hp, H68.le H' ∧ St w0 H0 w H' [.row u15 26 2 ([(⟨[80, 114, 97, 103, 109, 97], p_value⟩ : GField)] : List GField).length, .row v21 26 2 l20.length]) ?_ ?_
            · rcases boolE (!r65) with hb70 | hb70
              · replace hg71 := condT hg71 hb70
                refine WL.gno rfl rfl hb70 ?_
                refine WL.gno rfl rfl hb70 ?_
                refine WL.gno rfl rfl hb70 ?_
                refine WL.gno rfl rfl hb70 ?_
                refine WL.gyes rfl rfl hb63 ?_
                refine WL.valw (R.pickT rfl hb70 rfl) ?_
                exact WL.nil ⟨(congrArg boo (Option.some.inj hg71)), (by repeat (first | refine agree_upd rfl ?_ | refine agree_upds' rfl ?_ | exact agree_refl)), ⟨H68, (Hp.le.refl _), S⟩⟩
              · replace hg71 := condF hg71 hb70
                refine WL.gyes rfl rfl hb70 ?_
                refine WL.valw (R.mv (v := vp_l) rfl) ?_
                refine WL.gyes rfl rfl hb70 ?_
                obtain ⟨r72, hr72, hg71⟩ := bindE hg71
                refine W.call S rfl (ref01_All_ok S.holds p_l [80, 114, 97, 103, 109, 97] Rp_l hr72) ?_
                rintro v73 w74 H75 hle76 S R77
                have Rp_l := Sl.mono Rp_l hle76
                have R14 := Sl.mono R14 hle76
                have R19 := Sl.mono R19 hle76
                have R25 := Sl.mono R25 hle76
                refine WL.gyes rfl rfl hb70 ?_
                refine WL.valw (R.lenL (α := Str) (xs := r72) (H := H75) R77 rfl Tryd.underlying23) ?_
                refine WL.gyes rfl rfl hb70 ?_
                refine WL.valw (R.geq rfl rfl) ?_
                refine WL.gyes rfl rfl hb63 ?_
                refine WL.valw (R.pickF rfl hb70 rfl) ?_
                exact WL.nil ⟨(congrArg boo (Option.some.inj hg71)), (by repeat (first | refine agree_upd rfl ?_ | refine agree_upds' rfl ?_ | exact agree_refl)), ⟨H75, hle76, S⟩⟩
            · intro us w80 ⟨H79, hle81, S⟩
              have Rp_l := Sl.mono Rp_l hle81
              have R14 := Sl.mono R14 hle81
              have R19 := Sl.mono R19 hle81
              have R25 := Sl.mono R25 hle81
              refine WL.gyes rfl rfl hb63 ?_
              refine WL.valw (R.mv (v := (boo b78)) rfl) ?_
              obtain ⟨b89, hg83, hg64⟩ := bindE hg64
              refine WL.grpw 4 [46, 47, 48] 49 (boo b89) (fun w => ∃ H' : Hp, H79.le H' ∧ St w0 H0 w H' [.row u15 26 2 ([(⟨[80, 114, 97, 103, 109, 97], p_value⟩ : GField)] : List GField).length, .row v21 26 2 l20.length]) ?_ ?_
              · rcases boolE b78 with hb82 | hb82
                · replace hg83 := condT hg83 hb82
                  refine WL.gno rfl rfl hb82 ?_
                  refine WL.gno rfl rfl hb82 ?_
                  refine WL.gno rfl rfl hb82 ?_
                  refine WL.gyes rfl rfl hb63 ?_
                  refine WL.valw (R.pickT rfl hb82 rfl) ?_
                  exact WL.nil ⟨(congrArg boo (Option.some.inj hg83)), (by repeat (first | refine agree_upd rfl ?_ | refine agree_upds' rfl ?_ | exact agree_refl)), ⟨H79, (Hp.le.refl _), S⟩⟩
                · replace hg83 := condF hg83 hb82
                  refine WL.gyes rfl rfl hb82 ?_
                  refine WL.valw (R.mv (v := v21) rfl) ?_
                  refine WL.gyes rfl rfl hb82 ?_
                  obtain ⟨r84, hr84, hg83⟩ := bindE hg83
                  refine W.call S rfl (cachecontrol_Request_ok S.holds l20 R25 hr84) ?_
                  rintro v85 w86 H87 hle88 S rfl
                  have Rp_l := Sl.mono Rp_l hle88
                  have R14 := Sl.mono R14 hle88
                  have R19 := Sl.mono R19 hle88
                  have R25 := Sl.mono R25 hle88
                  refine WL.gyes rfl rfl hb82 ?_
                  refine WL.valw (v := (boo r84.fNoCache)) (R.fieldV (cs := [(boo r84.fNoStore), (boo r84.fNoCache), (boo r84.fMustRevalidate), (boo r84.fProxyRevalidate), (boo r84.fPrivate), (boo r84.fPublic), (boo r84.fOnlyIfCached), (int r84.fMaxAge), (int r84.fSMaxAge), (int r84.fMinFresh), (int r84.fMaxStale)]) rfl fty32_1 lay4 rfl) ?_
                  refine WL.gyes rfl rfl hb63 ?_
                  refine WL.valw (R.pickF rfl hb82 rfl) ?_
                  exact WL.nil ⟨(congrArg boo (Option.some.inj hg83)), (by repeat (first | refine agree_upd rfl ?_ | refine agree_upds' rfl ?_ | exact agree_refl)), ⟨H87, hle88, S⟩⟩
              · intro us w91 ⟨H90, hle92, S⟩
                have Rp_l := Sl.mono Rp_l hle92
                have R14 := Sl.mono R14 hle92
                have R19 := Sl.mono R19 hle92
                have R25 := Sl.mono R25 hle92
                refine WL.valw (R.pickT rfl hb63 rfl) ?_
                exact WL.nil ⟨(congrArg boo (Option.some.inj hg64)), (by repeat (first | refine agree_upd rfl ?_ | refine agree_upds' rfl ?_ | exact agree_refl)), ⟨H90, ((hle69.trans hle81).trans hle92), S⟩⟩
          · replace hg64 := condF hg64 hb63
            refine WL.gno rfl rfl hb63 ?_
            refine WL.gno rfl rfl hb63 ?_
            refine WL.gno rfl rfl hb63 ?_
            refine WL.gno rfl rfl hb63 ?_
            refine WL.gund rfl rfl ?_
            refine WL.gund rfl rfl ?_
            refine WL.gund rfl rfl ?_
            refine WL.gund rfl rfl ?_
            refine WL.gno rfl rfl hb63 ?_
            refine WL.gno rfl rfl hb63 ?_
            refine WL.gund rfl rfl ?_
            refine WL.gund rfl rfl ?_
            refine WL.gund rfl rfl ?_
            refine WL.gno rfl rfl hb63 ?_
            refine WL.valw (R.pickF rfl hb63 rfl) ?_
            exact WL.nil ⟨(congrArg boo (Option.some.inj hg64)), (by repeat (first | refine agree_upd rfl ?_ | refine agree_upds' rfl ?_ | exact agree_refl)), ⟨H61, (Hp.le.refl _), S⟩⟩
        · intro us w95 ⟨H94, hle96, S⟩
          have Rp_l := Sl.mono Rp_l hle96
          have R14 := Sl.mono R14 hle96
          have R19 := Sl.mono R19 hle96
          have R25 := Sl.mono R25 hle96
          refine WL.valw (R.mv (v := (boo b93)) rfl) ?_
          obtain ⟨b104, hg98, h⟩ := bindE h
          refine WL.grpw 2 [52] 53 (boo b104) (fun w => ∃ H' : Hp, H94.le H' ∧ St w0 H0 w H' [.row u15 26 2 ([(⟨[80, 114, 97, 103, 109, 97], p_value⟩ : GField)] : List GField).length, .row v21 26 2 l20.length]) ?_ ?_
          · rcases boolE b93 with hb97 | hb97
            · replace hg98 := condT hg98 hb97
              refine WL.gyes rfl rfl hb97 ?_
              obtain ⟨r99, hr99, hg98⟩ := bindE hg98
              refine W.call S rfl (law22_awake_ok S.holds  hr99) ?_
              rintro v100 w101 H102 hle103 S rfl
              have Rp_l := Sl.mono Rp_l hle103
              have R14 := Sl.mono R14 hle103
              have R19 := Sl.mono R19 hle103
              have R25 := Sl.mono R25 hle103
              refine WL.valw (R.pickT rfl hb97 rfl) ?_
              exact WL.nil ⟨(congrArg boo (Option.some.inj hg98)), (by repeat (first | refine agree_upd rfl ?_ | refine agree_upds' rfl ?_ | exact agree_refl)), ⟨H102, hle103, S⟩⟩
            · replace hg98 := condF hg98 hb97
              refine WL.gno rfl rfl hb97 ?_
              refine WL.valw (R.pickF rfl hb97 rfl) ?_
              exact WL.nil ⟨(congrArg boo (Option.some.inj hg98)), (by repeat (first | refine agree_upd rfl ?_ | refine agree_upds' rfl ?_ | exact agree_refl)), ⟨H94, (Hp.le.refl _), S⟩⟩
          · intro us w106 ⟨H105, hle107, S⟩
            have Rp_l := Sl.mono Rp_l hle107
            have R14 := Sl.mono R14 hle107
            have R19 := Sl.mono R19 hle107
            have R25 := Sl.mono R25 hle107
            refine WL.valw (R.as (v := (boo b104)) rfl) ?_
            refine WL.nil ?_
            obtain rfl := Option.some.inj h
            refine WP.ret (Out.one rfl S rfl ?_)
            exact rfl
set_option maxRecDepth 10000 in
set_option maxHeartbeats 4000000 in
theorem fieldline_First_ok {w0 : World} {H0 : Hp} (hw : Holds w0 H0) (p_l : (List GField)) (p_name : Str) {vp_l : Value} (Rp_l : Sl (α := GField) H0 vp_l p_l) {r : (Str × Bool)} (h : fieldline_First p_l p_name = some r) :
    Con Tryd.prog 56 [vp_l, (str p_name)] w0 H0 (fun H' v => v = (.tuple ⟨[(str r.1), (boo r.2)]⟩)) := by
  refine Con.mk (N := 16) Tryd.func56 rfl rfl (by kernel_rfl) rfl ?_
  have S := St.start hw
  refine WP.seq ?_
  refine WP.region ?_
  refine WL.valw (R.as (v := (str [])) rfl) ?_
  refine WL.valw (R.as (v := (boo false)) rfl) ?_
  refine WL.nil ?_
  refine WP.seq ?_
  refine WP.region ?_
  refine WL.valw (R.mv (v := vp_l) rfl) ?_
  refine WL.valw (R.mv (v := (str p_name)) rfl) ?_
  obtain ⟨r1, hr1, h⟩ := bindE h
  refine W.call S rfl (fieldline_Get_ok S.holds p_l p_name Rp_l hr1) ?_
  rintro v2 w3 H4 hle5 S R6
  have Rp_l := Sl.mono Rp_l hle5
  refine WL.valw (R.as (v := v2) rfl) ?_
  refine WL.nil ?_
  refine WP.seq ?_
  refine WP.seq ?_
  refine WP.region ?_
  refine WL.valw (R.mv (v := v2) rfl) ?_
  refine WL.valw (R.lenL (α := Str) (xs := r1) (H := H4) R6 rfl Tryd.underlying23) ?_
  refine WL.valw (R.eql rfl rfl) ?_
  refine WL.nil ?_
  rcases condE h with ⟨hc7, h⟩ | ⟨hc7, h⟩
  · refine WP.condT rfl hc7 ?_
    refine WP.seq ?_
    refine WP.region ?_
    refine WL.valw (R.as (v := (str [])) rfl) ?_
    refine WL.valw (R.as (v := (boo false)) rfl) ?_
    refine WL.nil ?_
    obtain rfl := Option.some.inj h
    refine WP.ret (Out.two rfl S rfl rfl ?_)
    exact rfl
  · refine WP.condF rfl hc7 ?_
    refine WP.skip ?_
    refine WP.seq ?_
    refine WP.region ?_
    refine WL.valw (R.mv (v := v2) rfl) ?_
    obtain ⟨x8, hx8, h⟩ := bindE h
    refine W.idx (α := Str) R6 rfl rfl el23 hx8 ?_
    rintro a9 _ hA10 rfl
    refine WL.valw (R.loadH (v := (str x8)) S rfl hA10 lay9 rfl) ?_
    refine WL.valw (R.as (v := (str x8)) rfl) ?_
    refine WL.valw (R.as (v := (boo true)) rfl) ?_
    refine WL.nil ?_
    obtain rfl := Option.some.inj h
    refine WP.ret (Out.two rfl S rfl rfl ?_)
    exact rfl
set_option maxRecDepth 10000 in
set_option maxHeartbeats 4000000 in
theorem date_index_ok {w0 : World} {H0 : Hp} (hw : Holds w0 H0) (p_n : Int) (p_name : (Int → Option Str)) (p_s : Str) {kp_name : FuncId} {cp_name : List Value} (Fp_name : ∀ {w : World} {H : Hp}, H0.le H → Holds w H → ∀ (x0 : Int) (rr : Str), p_name x0 = some rr → Con Tryd.prog kp_name ([(int x0)] ++ cp_name) w H (fun H' v => v = (str rr))) {r : Int} (h : date_index p_n p_name p_s = some r) :
    Con Tryd.prog 79 [(int p_n), (.func (.func kp_name) #[] cp_name.toArray), (str p_s)] w0 H0 (fun H' v => v = (int r)) := by
  refine Con.mk (N := 19) Tryd.func79 rfl rfl (by kernel_rfl) rfl ?_
  have S := St.start hw
  refine WP.seq ?_
  refine WP.region ?_
  refine WL.valw (R.as (v := (int 0)) rfl) ?_
  refine WL.nil ?_
  refine WP.seq ?_
  refine WP.seq ?_
  refine WP.region ?_
  refine WL.valw (R.mv (v := (int p_n)) rfl) ?_
  refine WL.valw (R.mv (v := (int 0)) rfl) ?_
  refine WL.nil ?_
  obtain ⟨r11, hr12, h⟩ := bindE h
  refine WP.cut (fun f w => match r11 with | .inl _ => ∃ (H7 : Hp), St w0 H0 w H7 [] | .inr _ => False) ?_ ?_
  · refine WP.block ?_
    refine WP.loopM (date_index_L0 p_n p_name p_s) (fun s f w => match s with | y_5 => ∃ (H1 : Hp), f 1 = (.func (.func kp_name) #[] cp_name.toArray) ∧ f 2 = (str p_s) ∧ f 8 = (int p_n) ∧ f 9 = (int y_5) ∧ St w0 H0 w H1 []) 0 r11 hr12 ?_ ?_
    · exact ⟨H0, rfl, rfl, rfl, rfl, S⟩
    · intro y_5 f w hI y8 hy9 hy10
      obtain ⟨H1, h2, h3, h4, h6, S⟩ := hI
      refine WP.seq ?_
      refine WP.region ?_
      refine WL.valw (R.lss h6 h4) ?_
      refine WL.nil ?_
      refine WP.seq ?_
      rcases condE hy9 with ⟨hc13, hy9⟩ | ⟨hc13, hy9⟩
      · refine WP.condT rfl hc13 ?_
        refine WP.skip ?_
        refine WP.seq ?_
        refine WP.block ?_
        refine WP.seq ?_
        refine WP.region ?_
        refine WL.valw (R.mv (v := (int y_5)) h6) ?_
        refine WL.valw (R.as (v := (int y_5)) rfl) ?_
        refine WL.nil ?_
        refine WP.seq ?_
        refine WP.region ?_
        refine WL.valw (R.mv (v := (.func (.func kp_name) #[] cp_name.toArray)) h2) ?_
        refine WL.valw (R.mv (v := (int y_5)) rfl) ?_
        obtain ⟨r14, hr14, hy9⟩ := bindE hy9
        refine W.callv S rfl rfl (Fp_name (S.post.le) S.holds y_5 _ hr14) ?_
        rintro v15 w16 H17 hle18 S rfl
        refine WL.valw (R.mv (v := (str p_s)) h3) ?_
        refine WL.valw (R.eqlS (a := r14) (b := p_s) rfl rfl) ?_
        refine WL.nil ?_
        rcases condE hy9 with ⟨hc19, hy9⟩ | ⟨hc19, hy9⟩
        · refine WP.condT rfl hc19 ?_
          refine WP.seq ?_
          refine WP.region ?_
          refine WL.valw (R.mv (v := (int y_5)) rfl) ?_
          refine WL.valw (R.as (v := (int y_5)) rfl) ?_
          refine WL.nil ?_
          obtain rfl := Option.some.inj hy9
          obtain rfl := hy10
          obtain rfl := Option.some.inj h
          refine WP.ret (Out.one rfl S rfl ?_)
          exact rfl
        · refine WP.condF rfl hc19 ?_
          refine WP.skip ?_
          refine WP.region ?_
          refine WL.valw (R.add h6 rfl) ?_
          refine WL.valw (R.mv (v := (int (wr (y_5 + 1)))) rfl) ?_
          refine WL.nil ?_
          obtain rfl := Option.some.inj hy9
          exact ⟨rfl, ⟨H17, h2, h3, h4, rfl, S⟩⟩
      · refine WP.condF rfl hc13 ?_
        refine WP.exit ?_
        obtain rfl := Option.some.inj hy9
        obtain rfl := hy10
        exact ⟨H1, S⟩
  · intro f w hM
    rcases r11 with _ | e
    · obtain ⟨H7, S⟩ := hM
      refine WP.seq ?_
      refine WP.region ?_
      refine WL.valw (R.as (v := (int (-1))) rfl) ?_
      refine WL.nil ?_
      obtain rfl := Option.some.inj h
      refine WP.ret (Out.one rfl S rfl ?_)
      exact rfl
    · exact hM.elim
set_option maxRecDepth 10000 in
set_option maxHeartbeats 4000000 in
theorem date_monthName_ok {w0 : World} {H0 : Hp} (hw : Holds w0 H0) (p_i : Int) {r : Str} (h : date_monthName p_i = some r) :
    Con Tryd.prog 80 [(int p_i)] w0 H0 (fun H' v => v = (str r)) := by
  refine Con.mk (N := 6) Tryd.func80 rfl rfl (by kernel_rfl) rfl ?_
  have S := St.start hw
  refine WP.seq ?_
  refine WP.region ?_
  refine WL.valw (R.as (v := (str [])) rfl) ?_
  refine WL.nil ?_
  refine WP.seq ?_
  refine WP.region ?_
  refine WL.valw (R.buildArr [(0, (str [74, 97, 110])), (1, (str [70, 101, 98])), (2, (str [77, 97, 114])), (3, (str [65, 112, 114])), (4, (str [77, 97, 121])), (5, (str [74, 117, 110])), (6, (str [74, 117, 108])), (7, (str [65, 117, 103])), (8, (str [83, 101, 112])), (9, (str [79, 99, 116])), (10, (str [78, 111, 118])), (11, (str [68, 101, 99]))] [(str [74, 97, 110]), (str [70, 101, 98]), (str [77, 97, 114]), (str [65, 112, 114]), (str [77, 97, 121]), (str [74, 117, 110]), (str [74, 117, 108]), (str [65, 117, 103]), (str [83, 101, 112]), (str [79, 99, 116]), (str [78, 111, 118]), (str [68, 101, 99])] Tryd.underlying86 lay9 zer86 rfl rfl) ?_
  refine WL.valw (R.mv (v := (int p_i)) rfl) ?_
  obtain ⟨s1, hs1, h⟩ := bindE h
  refine WL.valw (R.idxA str (l := ([[74, 97, 110], [70, 101, 98], [77, 97, 114], [65, 112, 114], [77, 97, 121], [74, 117, 110], [74, 117, 108], [65, 117, 103], [83, 101, 112], [79, 99, 116], [78, 111, 118], [68, 101, 99]] : List Str)) rfl rfl Tryd.underlying86 lay9 rfl hs1) ?_
  refine WL.valw (R.as (v := (str s1)) rfl) ?_
  refine WL.nil ?_
  obtain rfl := Option.some.inj h
  refine WP.ret (Out.one rfl S rfl ?_)
  exact rfl
set_option maxRecDepth 10000 in
set_option maxHeartbeats 4000000 in
theorem date_leap_ok {w0 : World} {H0 : Hp} (hw : Holds w0 H0) (p_year : Int) {r : Bool} (h : date_leap p_year = some r) :
    Con Tryd.prog 97 [(int p_year)] w0 H0 (fun H' v => v = (boo r)) := by
  refine Con.mk (N := 16) Tryd.func97 rfl rfl (by kernel_rfl) rfl ?_
  have S := St.start hw
  refine WP.seq ?_
  refine WP.region ?_
  refine WL.valw (R.as (v := (boo false)) rfl) ?_
  refine WL.nil ?_
  refine WP.seq ?_
  refine WP.region ?_
  refine WL.valw (R.mv (v := (int p_year)) rfl) ?_
  obtain ⟨n1, hn1, h⟩ := bindE h
  refine WL.valw (R.rem' rfl rfl hn1) ?_
  refine WL.valw (R.eql rfl rfl) ?_
  refine WL.valw (R.mv (v := (boo (n1 == 0))) rfl) ?_
  obtain ⟨b9, hg3, h⟩ := bindE h
  refine WL.grp 9 [7, 8, 9, 10, 11, 12, 13, 14] 15 (boo b9) ?_ ?_
  · rcases boolE (n1 == 0) with hb2 | hb2
    · replace hg3 := condT hg3 hb2
      refine WL.gyes rfl rfl hb2 ?_
      refine WL.valw (R.mv (v := (int p_year)) rfl) ?_
      refine WL.gyes rfl rfl hb2 ?_
      obtain ⟨n4, hn4, hg3⟩ := bindE hg3
      refine WL.valw (R.rem' rfl rfl hn4) ?_
      refine WL.gyes rfl rfl hb2 ?_
      refine WL.valw (R.neq rfl rfl) ?_
      refine WL.gyes rfl rfl hb2 ?_
      refine WL.valw (R.mv (v := (boo (n4 != 0))) rfl) ?_
      obtain ⟨b8, hg6, hg3⟩ := bindE hg3
      refine WL.grp 4 [11, 12, 13] 14 (boo b8) ?_ ?_
      · rcases boolE (n4 != 0) with hb5 | hb5
        · replace hg6 := condT hg6 hb5
          refine WL.gno rfl rfl hb5 ?_
          refine WL.gno rfl rfl hb5 ?_
          refine WL.gno rfl rfl hb5 ?_
          refine WL.gyes rfl rfl hb2 ?_
          refine WL.valw (R.pickT rfl hb5 rfl) ?_
          exact WL.nil ⟨(congrArg boo (Option.some.inj hg6)), (by repeat (first | refine agree_upd rfl ?_ | refine agree_upds' rfl ?_ | exact agree_refl)), rfl⟩
        · replace hg6 := condF hg6 hb5
          refine WL.gyes rfl rfl hb5 ?_
          refine WL.valw (R.mv (v := (int p_year)) rfl) ?_
          refine WL.gyes rfl rfl hb5 ?_
          obtain ⟨n7, hn7, hg6⟩ := bindE hg6
          refine WL.valw (R.rem' rfl rfl hn7) ?_
          refine WL.gyes rfl rfl hb5 ?_
          refine WL.valw (R.eql rfl rfl) ?_
          refine WL.gyes rfl rfl hb2 ?_
          refine WL.valw (R.pickF rfl hb5 rfl) ?_
          exact WL.nil ⟨(congrArg boo (Option.some.inj hg6)), (by repeat (first | refine agree_upd rfl ?_ | refine agree_upds' rfl ?_ | exact agree_refl)), rfl⟩
      · intro us
        refine WL.valw (R.pickT rfl hb2 rfl) ?_
        exact WL.nil ⟨(congrArg boo (Option.some.inj hg3)), (by repeat (first | refine agree_upd rfl ?_ | refine agree_upds' rfl ?_ | exact agree_refl)), rfl⟩
    · replace hg3 := condF hg3 hb2
      refine WL.gno rfl rfl hb2 ?_
      refine WL.gno rfl rfl hb2 ?_
      refine WL.gno rfl rfl hb2 ?_
      refine WL.gno rfl rfl hb2 ?_
      refine WL.gund rfl rfl ?_
      refine WL.gund rfl rfl ?_
      refine WL.gund rfl rfl ?_
      refine WL.gno rfl rfl hb2 ?_
      refine WL.valw (R.pickF rfl hb2 rfl) ?_
      exact WL.nil ⟨(congrArg boo (Option.some.inj hg3)), (by repeat (first | refine agree_upd rfl ?_ | refine agree_upds' rfl ?_ | exact agree_refl)), rfl⟩
  · intro us
    refine WL.valw (R.as (v := (boo b9)) rfl) ?_
    refine WL.nil ?_
    obtain rfl := Option.some.inj h
    refine WP.ret (Out.one rfl S rfl ?_)
    exact rfl
set_option maxRecDepth 10000 in
set_option maxHeartbeats 4000000 in
theorem date_length_ok {w0 : World} {H0 : Hp} (hw : Holds w0 H0) (p_year : Int) (p_month : Int) {r : Int} (h : date_length p_year p_month = some r) :
    Con Tryd.prog 86 [(int p_year), (int p_month)] w0 H0 (fun H' v => v = (int r)) := by
  refine Con.mk (N := 15) Tryd.func86 rfl rfl (by kernel_rfl) rfl ?_
  have S := St.start hw
  refine WP.seq ?_
  refine WP.region ?_
  refine WL.valw (R.as (v := (int 0)) rfl) ?_
  refine WL.nil ?_
  refine WP.seq ?_
  refine WP.seq ?_
  refine WP.region ?_
  refine WL.valw (R.mv (v := (int p_month)) rfl) ?_
  refine WL.valw (R.eql rfl rfl) ?_
  refine WL.valw (R.mv (v := (boo (p_month == 2))) rfl) ?_
  obtain ⟨b8, hg2, h⟩ := bindE h
  refine WL.grpw 3 [8, 9] 10 (boo b8) (fun w => ∃ H' : Hp, H0.le H' ∧ St w0 H0 w H' []) ?_ ?_
  · rcases boolE (p_month == 2) with hb1 | hb1
    · replace hg2 := condT hg2 hb1
      refine WL.gyes rfl rfl hb1 ?_
      refine WL.valw (R.mv (v := (int p_year)) rfl) ?_
      refine WL.gyes rfl rfl hb1 ?_
      obtain ⟨r3, hr3, hg2⟩ := bindE hg2
      refine W.call S rfl (date_leap_ok S.holds p_year hr3) ?_
      rintro v4 w5 H6 hle7 S rfl
      refine WL.valw (R.pickT rfl hb1 rfl) ?_
      exact WL.nil ⟨(congrArg boo (Option.some.inj hg2)), (by repeat (first | refine agree_upd rfl ?_ | refine agree_upds' rfl ?_ | exact agree_refl)), ⟨H6, hle7, S⟩⟩
    · replace hg2 := condF hg2 hb1
      refine WL.gno rfl rfl hb1 ?_
      refine WL.gno rfl rfl hb1 ?_
      refine WL.valw (R.pickF rfl hb1 rfl) ?_
      exact WL.nil ⟨(congrArg boo (Option.some.inj hg2)), (by repeat (first | refine agree_upd rfl ?_ | refine agree_upds' rfl ?_ | exact agree_refl)), ⟨H0, (Hp.le.refl _), S⟩⟩
  · intro us w10 ⟨H9, hle11, S⟩
    refine WL.nil ?_
    rcases condE h with ⟨hc12, h⟩ | ⟨hc12, h⟩
    · refine WP.condT rfl hc12 ?_
      refine WP.seq ?_
      refine WP.region ?_
      refine WL.valw (R.as (v := (int 29)) rfl) ?_
      refine WL.nil ?_
      obtain rfl := Option.some.inj h
      refine WP.ret (Out.one rfl S rfl ?_)
      exact rfl
    · refine WP.condF rfl hc12 ?_
      refine WP.skip ?_
      refine WP.seq ?_
      refine WP.region ?_
      refine WL.valw (R.buildArr [(0, (int 31)), (1, (int 28)), (2, (int 31)), (3, (int 30)), (4, (int 31)), (5, (int 30)), (6, (int 31)), (7, (int 31)), (8, (int 30)), (9, (int 31)), (10, (int 30)), (11, (int 31))] [(int 31), (int 28), (int 31), (int 30), (int 31), (int 30), (int 31), (int 31), (int 30), (int 31), (int 30), (int 31)] Tryd.underlying98 lay3 zer98 rfl rfl) ?_
      refine WL.valw (R.mv (v := (int p_month)) rfl) ?_
      refine WL.valw (R.sub rfl rfl) ?_
      obtain ⟨n13, hn13, h⟩ := bindE h
      refine WL.valw (R.idxA int (l := ([31, 28, 31, 30, 31, 30, 31, 31, 30, 31, 30, 31] : List Int)) rfl rfl Tryd.underlying98 lay3 rfl hn13) ?_
      refine WL.valw (R.as (v := (int n13)) rfl) ?_
      refine WL.nil ?_
      obtain rfl := Option.some.inj h
      refine WP.ret (Out.one rfl S rfl ?_)
      exact rfl
set_option maxRecDepth 10000 in
set_option maxHeartbeats 4000000 in
theorem date_before_ok {w0 : World} {H0 : Hp} (hw : Holds w0 H0) (p_year : Int) {r : Int} (h : date_before p_year = some r) :
    Con Tryd.prog 87 [(int p_year)] w0 H0 (fun H' v => v = (int r)) := by
  refine Con.mk (N := 17) Tryd.func87 rfl rfl (by kernel_rfl) rfl ?_
  have S := St.start hw
  refine WP.seq ?_
  refine WP.region ?_
  refine WL.valw (R.as (v := (int 0)) rfl) ?_
  refine WL.nil ?_
  refine WP.seq ?_
  refine WP.region ?_
  refine WL.valw (R.mv (v := (int p_year)) rfl) ?_
  refine WL.valw (R.sub rfl rfl) ?_
  refine WL.valw (R.as (v := (int (wr (p_year - 1)))) rfl) ?_
  refine WL.nil ?_
  refine WP.seq ?_
  refine WP.region ?_
  refine WL.valw (R.mv (v := (int (wr (p_year - 1)))) rfl) ?_
  refine WL.valw (R.mul rfl rfl) ?_
  refine WL.valw (R.mv (v := (int (wr (p_year - 1)))) rfl) ?_
  obtain ⟨n1, hn1, h⟩ := bindE h
  refine WL.valw (R.quo' rfl rfl hn1) ?_
  refine WL.valw (R.add rfl rfl) ?_
  refine WL.valw (R.mv (v := (int (wr (p_year - 1)))) rfl) ?_
  obtain ⟨n2, hn2, h⟩ := bindE h
  refine WL.valw (R.quo' rfl rfl hn2) ?_
  refine WL.valw (R.sub rfl rfl) ?_
  refine WL.valw (R.mv (v := (int (wr (p_year - 1)))) rfl) ?_
  obtain ⟨n3, hn3, h⟩ := bindE h
  refine WL.valw (R.quo' rfl rfl hn3) ?_
  refine WL.valw (R.add rfl rfl) ?_
  refine WL.valw (R.as (v := (int (wr ((wr ((wr ((wr (365 * (wr (p_year - 1)))) + n1)) - n2)) + n3)))) rfl) ?_
  refine WL.nil ?_
  obtain rfl := Option.some.inj h
  refine WP.ret (Out.one rfl S rfl ?_)
  exact rfl
set_option maxRecDepth 10000 in
set_option maxHeartbeats 4000000 in
theorem date_Days_ok {w0 : World} {H0 : Hp} (hw : Holds w0 H0) (p_year : Int) (p_month : Int) (p_day : Int) {r : Int} (h : date_Days p_year p_month p_day = some r) :
    Con Tryd.prog 81 [(int p_year), (int p_month), (int p_day)] w0 H0 (fun H' v => v = (int r)) := by
  refine Con.mk (N := 52) Tryd.func81 rfl rfl (by kernel_rfl) rfl ?_
  have S := St.start hw
  refine WP.seq ?_
  refine WP.region ?_
  refine WL.valw (R.as (v := (int 0)) rfl) ?_
  refine WL.nil ?_
  refine WP.seq ?_
  refine WP.seq ?_
  refine WP.region ?_
  refine WL.valw (R.mv (v := (int p_year)) rfl) ?_
  refine WL.valw (R.lss rfl rfl) ?_
  refine WL.valw (R.mv (v := (boo (decide (p_year < 1970)))) rfl) ?_
  refine WL.grp 3 [12, 13] 14 (boo ((decide (p_year < 1970)) || (decide (9999 < p_year)))) ?_ ?_
  · rcases boolE (decide (p_year < 1970)) with hb1 | hb1
    · refine WL.gno rfl rfl hb1 ?_
      refine WL.gno rfl rfl hb1 ?_
      refine WL.valw (R.pickT rfl hb1 rfl) ?_
      exact WL.nil ⟨(orT hb1), (by repeat (first | refine agree_upd rfl ?_ | refine agree_upds' rfl ?_ | exact agree_refl)), rfl⟩
    · refine WL.gyes rfl rfl hb1 ?_
      refine WL.valw (R.mv (v := (int p_year)) rfl) ?_
      refine WL.gyes rfl rfl hb1 ?_
      refine WL.valw (R.gtr rfl rfl) ?_
      refine WL.valw (R.pickF rfl hb1 rfl) ?_
      exact WL.nil ⟨(orF hb1), (by repeat (first | refine agree_upd rfl ?_ | refine agree_upds' rfl ?_ | exact agree_refl)), rfl⟩
  · intro us
    refine WL.valw (R.mv (v := (boo ((decide (p_year < 1970)) || (decide (9999 < p_year))))) rfl) ?_
    refine WL.grp 3 [16, 17] 18 (boo (((decide (p_year < 1970)) || (decide (9999 < p_year))) || (decide (p_month < 1)))) ?_ ?_
    · rcases boolE ((decide (p_year < 1970)) || (decide (9999 < p_year))) with hb3 | hb3
      · refine WL.gno rfl rfl hb3 ?_
        refine WL.gno rfl rfl hb3 ?_
        refine WL.valw (R.pickT rfl hb3 rfl) ?_
        exact WL.nil ⟨(orT hb3), (by repeat (first | refine agree_upd rfl ?_ | refine agree_upds' rfl ?_ | exact agree_refl)), rfl⟩
      · refine WL.gyes rfl rfl hb3 ?_
        refine WL.valw (R.mv (v := (int p_month)) rfl) ?_
        refine WL.gyes rfl rfl hb3 ?_
        refine WL.valw (R.lss rfl rfl) ?_
        refine WL.valw (R.pickF rfl hb3 rfl) ?_
        exact WL.nil ⟨(orF hb3), (by repeat (first | refine agree_upd rfl ?_ | refine agree_upds' rfl ?_ | exact agree_refl)), rfl⟩
    · intro us
      refine WL.valw (R.mv (v := (boo (((decide (p_year < 1970)) || (decide (9999 < p_year))) || (decide (p_month < 1))))) rfl) ?_
      refine WL.grp 3 [20, 21] 22 (boo ((((decide (p_year < 1970)) || (decide (9999 < p_year))) || (decide (p_month < 1))) || (decide (12 < p_month)))) ?_ ?_
      · rcases boolE (((decide (p_year < 1970)) || (decide (9999 < p_year))) || (decide (p_month < 1))) with hb5 | hb5
        · refine WL.gno rfl rfl hb5 ?_
          refine WL.gno rfl rfl hb5 ?_
          refine WL.valw (R.pickT rfl hb5 rfl) ?_
          exact WL.nil ⟨(orT hb5), (by repeat (first | refine agree_upd rfl ?_ | refine agree_upds' rfl ?_ | exact agree_refl)), rfl⟩
        · refine WL.gyes rfl rfl hb5 ?_
          refine WL.valw (R.mv (v := (int p_month)) rfl) ?_
          refine WL.gyes rfl rfl hb5 ?_
          refine WL.valw (R.gtr rfl rfl) ?_
          refine WL.valw (R.pickF rfl hb5 rfl) ?_
          exact WL.nil ⟨(orF hb5), (by repeat (first | refine agree_upd rfl ?_ | refine agree_upds' rfl ?_ | exact agree_refl)), rfl⟩
      · intro us
        refine WL.valw (R.mv (v := (boo ((((decide (p_year < 1970)) || (decide (9999 < p_year))) || (decide (p_month < 1))) || (decide (12 < p_month))))) rfl) ?_
        refine WL.grp 3 [24, 25] 26 (boo (((((decide (p_year < 1970)) || (decide (9999 < p_year))) || (decide (p_month < 1))) || (decide (12 < p_month))) || (decide (p_day < 1)))) ?_ ?_
        · rcases boolE ((((decide (p_year < 1970)) || (decide (9999 < p_year))) || (decide (p_month < 1))) || (decide (12 < p_month))) with hb7 | hb7
          · refine WL.gno rfl rfl hb7 ?_
            refine WL.gno rfl rfl hb7 ?_
            refine WL.valw (R.pickT rfl hb7 rfl) ?_
            exact WL.nil ⟨(orT hb7), (by repeat (first | refine agree_upd rfl ?_ | refine agree_upds' rfl ?_ | exact agree_refl)), rfl⟩
          · refine WL.gyes rfl rfl hb7 ?_
            refine WL.valw (R.mv (v := (int p_day)) rfl) ?_
            refine WL.gyes rfl rfl hb7 ?_
            refine WL.valw (R.lss rfl rfl) ?_
            refine WL.valw (R.pickF rfl hb7 rfl) ?_
            exact WL.nil ⟨(orF hb7), (by repeat (first | refine agree_upd rfl ?_ | refine agree_upds' rfl ?_ | exact agree_refl)), rfl⟩
        · intro us
          refine WL.valw (R.mv (v := (boo (((((decide (p_year < 1970)) || (decide (9999 < p_year))) || (decide (p_month < 1))) || (decide (12 < p_month))) || (decide (p_day < 1))))) rfl) ?_
          obtain ⟨b16, hg10, h⟩ := bindE h
          refine WL.grpw 6 [28, 29, 30, 31, 32] 33 (boo b16) (fun w => ∃ H' : Hp, H0.le H' ∧ St w0 H0 w H' []) ?_ ?_
          · rcases boolE (((((decide (p_year < 1970)) || (decide (9999 < p_year))) || (decide (p_month < 1))) || (decide (12 < p_month))) || (decide (p_day < 1))) with hb9 | hb9
            · replace hg10 := condT hg10 hb9
              refine WL.gno rfl rfl hb9 ?_
              refine WL.gno rfl rfl hb9 ?_
              refine WL.gno rfl rfl hb9 ?_
              refine WL.gno rfl rfl hb9 ?_
              refine WL.gno rfl rfl hb9 ?_
              refine WL.valw (R.pickT rfl hb9 rfl) ?_
              exact WL.nil ⟨(congrArg boo (Option.some.inj hg10)), (by repeat (first | refine agree_upd rfl ?_ | refine agree_upds' rfl ?_ | exact agree_refl)), ⟨H0, (Hp.le.refl _), S⟩⟩
            · replace hg10 := condF hg10 hb9
              refine WL.gyes rfl rfl hb9 ?_
              refine WL.valw (R.mv (v := (int p_day)) rfl) ?_
              refine WL.gyes rfl rfl hb9 ?_
              refine WL.valw (R.mv (v := (int p_year)) rfl) ?_
              refine WL.gyes rfl rfl hb9 ?_
              refine WL.valw (R.mv (v := (int p_month)) rfl) ?_
              refine WL.gyes rfl rfl hb9 ?_
              obtain ⟨r11, hr11, hg10⟩ := bindE hg10
              refine W.call S rfl (date_length_ok S.holds p_year p_month hr11) ?_
              rintro v12 w13 H14 hle15 S rfl
              refine WL.gyes rfl rfl hb9 ?_
              refine WL.valw (R.gtr rfl rfl) ?_
              refine WL.valw (R.pickF rfl hb9 rfl) ?_
              exact WL.nil ⟨(congrArg boo (Option.some.inj hg10)), (by repeat (first | refine agree_upd rfl ?_ | refine agree_upds' rfl ?_ | exact agree_refl)), ⟨H14, hle15, S⟩⟩
          · intro us w18 ⟨H17, hle19, S⟩
            refine WL.nil ?_
            rcases condE h with ⟨hc20, h⟩ | ⟨hc20, h⟩
            · refine WP.condT rfl hc20 ?_
              refine WP.seq ?_
              refine WP.region ?_
              refine WL.valw (R.as (v := (int (-1))) rfl) ?_
              refine WL.nil ?_
              obtain rfl := Option.some.inj h
              refine WP.ret (Out.one rfl S rfl ?_)
              exact rfl
            · refine WP.condF rfl hc20 ?_
              refine WP.skip ?_
              refine WP.seq ?_
              refine WP.region ?_
              refine WL.valw (R.mv (v := (int p_year)) rfl) ?_
              obtain ⟨r21, hr21, h⟩ := bindE h
              refine W.call S rfl (date_before_ok S.holds p_year hr21) ?_
              rintro v22 w23 H24 hle25 S rfl
              obtain ⟨r26, hr26, h⟩ := bindE h
              refine W.call S rfl (date_before_ok S.holds 1970 hr26) ?_
              rintro v27 w28 H29 hle30 S rfl
              refine WL.valw (R.sub rfl rfl) ?_
              refine WL.valw (R.mv (v := (int p_day)) rfl) ?_
              refine WL.valw (R.add rfl rfl) ?_
              refine WL.valw (R.sub rfl rfl) ?_
              refine WL.valw (R.as (v := (int (wr ((wr ((wr (r21 - r26)) + p_day)) - 1)))) rfl) ?_
              refine WL.nil ?_
              refine WP.seq ?_
              refine WP.seq ?_
              refine WP.region ?_
              refine WL.valw (R.as (v := (int 1)) rfl) ?_
              refine WL.nil ?_
              obtain ⟨n_39, hr45, h⟩ := bindE h
              refine WP.cut (fun f w => ∃ (H38 : Hp), f 7 = (int n_39) ∧ St w0 H0 w H38 []) ?_ ?_
              · refine WP.block ?_
                refine WP.loopM (date_Days_L0 p_year p_month) (fun s f w => match s with | (n_34, m_36) => ∃ (H31 : Hp), f 0 = (int p_year) ∧ f 1 = (int p_month) ∧ f 7 = (int n_34) ∧ f 8 = (int m_36) ∧ St w0 H0 w H31 []) (wr ((wr ((wr (r21 - r26)) + p_day)) - 1), 1) n_39 hr45 ?_ ?_
                · exact ⟨H29, rfl, rfl, rfl, rfl, S⟩
                · intro s f w hI y41 hy42 hy43
                  obtain ⟨n_34, m_36⟩ := s
                  obtain ⟨H31, h32, h33, h35, h37, S⟩ := hI
                  refine WP.seq ?_
                  refine WP.seq ?_
                  refine WP.region ?_
                  refine WL.valw (R.mv (v := (int m_36)) h37) ?_
                  refine WL.valw (R.mv (v := (int p_month)) h33) ?_
                  refine WL.valw (R.lss rfl rfl) ?_
                  refine WL.nil ?_
                  rcases condE hy42 with ⟨hc46, hy42⟩ | ⟨hc46, hy42⟩
                  · refine WP.condT rfl hc46 ?_
                    refine WP.skip ?_
                    refine WP.seq ?_
                    refine WP.block ?_
                    refine WP.region ?_
                    refine WL.valw (R.mv (v := (int n_34)) h35) ?_
                    refine WL.valw (R.mv (v := (int p_year)) h32) ?_
                    refine WL.valw (R.mv (v := (int m_36)) h37) ?_
                    obtain ⟨r47, hr47, hy42⟩ := bindE hy42
                    refine W.call S rfl (date_length_ok S.holds p_year m_36 hr47) ?_
                    rintro v48 w49 H50 hle51 S rfl
                    refine WL.valw (R.add rfl rfl) ?_
                    refine WL.valw (R.as (v := (int (wr (n_34 + r47)))) rfl) ?_
                    refine WL.nil ?_
                    refine WP.region ?_
                    refine WL.valw (R.mv (v := (int m_36)) h37) ?_
                    refine WL.valw (R.add rfl rfl) ?_
                    refine WL.valw (R.as (v := (int (wr (m_36 + 1)))) rfl) ?_
                    refine WL.nil ?_
                    obtain rfl := Option.some.inj hy42
                    exact ⟨rfl, ⟨H50, h32, h33, rfl, rfl, S⟩⟩
                  · refine WP.condF rfl hc46 ?_
                    refine WP.exit ?_
                    obtain rfl := Option.some.inj hy42
                    obtain rfl := hy43
                    exact ⟨H31, h35, S⟩
              · rintro f w ⟨H38, h40, S⟩
                refine WP.seq ?_
                refine WP.region ?_
                refine WL.valw (R.mv (v := (int n_39)) h40) ?_
                refine WL.valw (R.as (v := (int n_39)) rfl) ?_
                refine WL.nil ?_
                obtain rfl := Option.some.inj h
                refine WP.ret (Out.one rfl S rfl ?_)
                exact rfl
set_option maxRecDepth 10000 in
set_option maxHeartbeats 4000000 in
theorem date_dayName_ok {w0 : World} {H0 : Hp} (hw : Holds w0 H0) (p_i : Int) {r : Str} (h : date_dayName p_i = some r) :
    Con Tryd.prog 82 [(int p_i)] w0 H0 (fun H' v => v = (str r)) := by
  refine Con.mk (N := 6) Tryd.func82 rfl rfl (by kernel_rfl) rfl ?_
  have S := St.start hw
  refine WP.seq ?_
  refine WP.region ?_
  refine WL.valw (R.as (v := (str [])) rfl) ?_
  refine WL.nil ?_
  refine WP.seq ?_
  refine WP.region ?_
  refine WL.valw (R.buildArr [(0, (str [77, 111, 110])), (1, (str [84, 117, 101])), (2, (str [87, 101, 100])), (3, (str [84, 104, 117])), (4, (str [70, 114, 105])), (5, (str [83, 97, 116])), (6, (str [83, 117, 110]))] [(str [77, 111, 110]), (str [84, 117, 101]), (str [87, 101, 100]), (str [84, 104, 117]), (str [70, 114, 105]), (str [83, 97, 116]), (str [83, 117, 110])] Tryd.underlying89 lay9 zer89 rfl rfl) ?_
  refine WL.valw (R.mv (v := (int p_i)) rfl) ?_
  obtain ⟨s1, hs1, h⟩ := bindE h
  refine WL.valw (R.idxA str (l := ([[77, 111, 110], [84, 117, 101], [87, 101, 100], [84, 104, 117], [70, 114, 105], [83, 97, 116], [83, 117, 110]] : List Str)) rfl rfl Tryd.underlying89 lay9 rfl hs1) ?_
  refine WL.valw (R.as (v := (str s1)) rfl) ?_
  refine WL.nil ?_
  obtain rfl := Option.some.inj h
  refine WP.ret (Out.one rfl S rfl ?_)
  exact rfl
end Go.Proofs
