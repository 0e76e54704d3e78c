/- A part of the proof of laws of the seat: written by program over the translation. -/
import Derived.Test.YtmeemcjmhbgbdaaGreatDoorGenF4
namespace Go.Proofs
open Go.Eng Go.Eng.Pure
set_option linter.unusedVariables false
set_option maxRecDepth 10000 in
set_option maxHeartbeats 4000000 in
theorem storable_Storable_ok {w0 : World} {H0 : Hp} (hw : Holds w0 H0) (p_ppend : GRequest) (p_x1 : GResponse) {vp_ppend3 : Value} {vp_x13 : Value} (Rp_ppend3 : Sl (α := GField) H0 vp_ppend3 p_ppend.fFields) (Rp_x13 : Sl (α := GField) H0 vp_x13 p_x1.fFields) {r : Bool} (h : storable_Storable p_ppend p_x1 = some r) :
    Con Tryz.prog 8 [(agg [(str p_ppend.fMethod), (str p_ppend.fTarget), (int p_ppend.fMinor), vp_ppend3, (str p_ppend.fBody)]), (agg [(int p_x1.fMinor), (int p_x1.fStatus), (str p_x1.fReason), vp_x13, (str p_x1.fBody)])] w0 H0 (fun H' v => v = (boo r)) := by
  refine Con.mk (N := 69) Tryz.func8 rfl rfl (by kernel_rfl) rfl ?_
  have S := St.start hw
  refine WP.seq ?_
  refine WP.region ?_
  refine W.box [(str p_ppend.fMethod), (str p_ppend.fTarget), (int p_ppend.fMinor), vp_ppend3, (str p_ppend.fBody)] S rfl rfl ?_
  intro b1 w2 S
  refine W.box [(int p_x1.fMinor), (int p_x1.fStatus), (str p_x1.fReason), vp_x13, (str p_x1.fBody)] S rfl rfl ?_
  intro b3 w4 S
  refine WL.valw (R.as (v := (boo false)) rfl) ?_
  refine WL.nil ?_
  refine WP.seq ?_
  refine WP.seq ?_
  refine WP.region ?_
  refine WL.valw (R.fieldB rfl fld24_0) ?_
  refine WL.valw (R.loadB (i := 1) (v := (str p_ppend.fMethod)) S rfl rfl lay9 rfl) ?_
  refine WL.valw (R.neqS (a := p_ppend.fMethod) (b := [71, 69, 84]) rfl rfl) ?_
  refine WL.valw (R.mv (v := (boo (p_ppend.fMethod != [71, 69, 84]))) rfl) ?_
  refine WL.grp 4 [12, 13, 14] 15 (boo ((p_ppend.fMethod != [71, 69, 84]) || (p_x1.fStatus != 200))) ?_ ?_
  · rcases boolE (p_ppend.fMethod != [71, 69, 84]) with hb5 | hb5
    · refine WL.gno rfl rfl hb5 ?_
      refine WL.gno rfl rfl hb5 ?_
      refine WL.gno rfl rfl hb5 ?_
      refine WL.valw (R.pickT rfl hb5 rfl) ?_
      exact WL.nil ⟨(orT hb5), (by repeat (first | refine agree_upd rfl ?_ | refine agree_upds' rfl ?_ | exact agree_refl)), rfl⟩
    · refine WL.gyes rfl rfl hb5 ?_
      refine WL.valw (R.fieldB rfl fld26_1) ?_
      refine WL.gyes rfl rfl hb5 ?_
      refine WL.valw (R.loadB (i := 0) (v := (int p_x1.fStatus)) S rfl rfl lay3 rfl) ?_
      refine WL.gyes rfl rfl hb5 ?_
      refine WL.valw (R.neq rfl rfl) ?_
      refine WL.valw (R.pickF rfl hb5 rfl) ?_
      exact WL.nil ⟨(orF hb5), (by repeat (first | refine agree_upd rfl ?_ | refine agree_upds' rfl ?_ | exact agree_refl)), rfl⟩
  · intro us
    refine WL.nil ?_
    rcases condE h with ⟨hc7, h⟩ | ⟨hc7, h⟩
    · refine WP.condT rfl hc7 ?_
      refine WP.seq ?_
      refine WP.region ?_
      refine WL.valw (R.as (v := (boo false)) rfl) ?_
      refine WL.nil ?_
      obtain rfl := Option.some.inj h
      refine WP.ret (Out.one rfl S rfl ?_)
      exact rfl
    · refine WP.condF rfl hc7 ?_
      refine WP.skip ?_
      refine WP.seq ?_
      refine WP.region ?_
      refine WL.valw (R.fieldB rfl fld26_3) ?_
      refine WL.valw (R.loadB (i := 0) (v := vp_x13) S rfl rfl lay22 rfl) ?_
      obtain ⟨r8, hr8, h⟩ := bindE h
      refine W.call S rfl (cachecontrol_Response_ok S.holds p_x1.fFields Rp_x13 hr8) ?_
      rintro v9 w10 H11 hle12 S rfl
      have Rp_ppend3 := Sl.mono Rp_ppend3 hle12
      have Rp_x13 := Sl.mono Rp_x13 hle12
      refine W.alloc [(boo false), (boo false), (boo false), (boo false), (boo false), (boo false), (boo false), (int 0), (int 0), (int 0), (int 0)] S zer36 ?_
      intro b13 w14 S
      refine W.store (i := 0) [(boo r8.fNoStore), (boo r8.fNoCache), (boo r8.fMustRevalidate), (boo r8.fProxyRevalidate), (boo r8.fPrivate), (boo r8.fPublic), (boo r8.fOnlyIfCached), (int r8.fMaxAge), (int r8.fSMaxAge), (int r8.fMinFresh), (int r8.fMaxStale)] S rfl rfl rfl lay36 rfl rfl (Nat.le_of_ble_eq_true rfl) rfl ?_
      intro w15 S
      refine WL.nil ?_
      refine WP.seq ?_
      refine WP.seq ?_
      refine WP.region ?_
      refine WL.valw (R.fieldB rfl fld36_0) ?_
      refine WL.valw (R.loadB (i := 0) (v := (boo r8.fNoStore)) S rfl rfl lay4 rfl) ?_
      refine WL.valw (R.mv (v := (boo r8.fNoStore)) rfl) ?_
      refine WL.grp 3 [22, 23] 24 (boo (r8.fNoStore || r8.fPrivate)) ?_ ?_
      · rcases boolE r8.fNoStore with hb16 | hb16
        · refine WL.gno rfl rfl hb16 ?_
          refine WL.gno rfl rfl hb16 ?_
          refine WL.valw (R.pickT rfl hb16 rfl) ?_
          exact WL.nil ⟨(orT hb16), (by repeat (first | refine agree_upd rfl ?_ | refine agree_upds' rfl ?_ | exact agree_refl)), rfl⟩
        · refine WL.gyes rfl rfl hb16 ?_
          refine WL.valw (R.fieldB rfl fld36_4) ?_
          refine WL.gyes rfl rfl hb16 ?_
          refine WL.valw (R.loadB (i := 0) (v := (boo r8.fPrivate)) S rfl rfl lay4 rfl) ?_
          refine WL.valw (R.pickF rfl hb16 rfl) ?_
          exact WL.nil ⟨(orF hb16), (by repeat (first | refine agree_upd rfl ?_ | refine agree_upds' rfl ?_ | exact agree_refl)), rfl⟩
      · intro us
        refine WL.valw (R.mv (v := (boo (r8.fNoStore || r8.fPrivate))) rfl) ?_
        obtain ⟨b25, hg19, h⟩ := bindE h
        refine WL.grpw 5 [26, 27, 28, 29] 30 (boo b25) (fun w => ∃ H' : Hp, H11.le H' ∧ St w0 H0 w H' [.box b13 36 [(boo r8.fNoStore), (boo r8.fNoCache), (boo r8.fMustRevalidate), (boo r8.fProxyRevalidate), (boo r8.fPrivate), (boo r8.fPublic), (boo r8.fOnlyIfCached), (int r8.fMaxAge), (int r8.fSMaxAge), (int r8.fMinFresh), (int r8.fMaxStale)], .box b3 26 [(int p_x1.fMinor), (int p_x1.fStatus), (str p_x1.fReason), vp_x13, (str p_x1.fBody)], .box b1 24 [(str p_ppend.fMethod), (str p_ppend.fTarget), (int p_ppend.fMinor), vp_ppend3, (str p_ppend.fBody)]]) ?_ ?_
        · rcases boolE (r8.fNoStore || r8.fPrivate) with hb18 | hb18
          · replace hg19 := condT hg19 hb18
            refine WL.gno rfl rfl hb18 ?_
            refine WL.gno rfl rfl hb18 ?_
            refine WL.gno rfl rfl hb18 ?_
            refine WL.gno rfl rfl hb18 ?_
            refine WL.valw (R.pickT rfl hb18 rfl) ?_
            exact WL.nil ⟨(congrArg boo (Option.some.inj hg19)), (by repeat (first | refine agree_upd rfl ?_ | refine agree_upds' rfl ?_ | exact agree_refl)), ⟨H11, (Hp.le.refl _), S⟩⟩
          · replace hg19 := condF hg19 hb18
            refine WL.gyes rfl rfl hb18 ?_
            refine WL.valw (R.fieldB rfl fld24_3) ?_
            refine WL.gyes rfl rfl hb18 ?_
            refine WL.valw (R.loadB (i := 2) (v := vp_ppend3) S rfl rfl lay22 rfl) ?_
            refine WL.gyes rfl rfl hb18 ?_
            obtain ⟨r20, hr20, hg19⟩ := bindE hg19
            refine W.call S rfl (cachecontrol_Request_ok S.holds p_ppend.fFields Rp_ppend3 hr20) ?_
            rintro v21 w22 H23 hle24 S rfl
            have Rp_ppend3 := Sl.mono Rp_ppend3 hle24
            have Rp_x13 := Sl.mono Rp_x13 hle24
            refine WL.gyes rfl rfl hb18 ?_
            refine WL.valw (v := (boo r20.fNoStore)) (R.fieldV (cs := [(boo r20.fNoStore), (boo r20.fNoCache), (boo r20.fMustRevalidate), (boo r20.fProxyRevalidate), (boo r20.fPrivate), (boo r20.fPublic), (boo r20.fOnlyIfCached), (int r20.fMaxAge), (int r20.fSMaxAge), (int r20.fMinFresh), (int r20.fMaxStale)]) rfl fty36_0 lay4 rfl) ?_
            refine WL.valw (R.pickF rfl hb18 rfl) ?_
            exact WL.nil ⟨(congrArg boo (Option.some.inj hg19)), (by repeat (first | refine agree_upd rfl ?_ | refine agree_upds' rfl ?_ | exact agree_refl)), ⟨H23, hle24, S⟩⟩
        · intro us w27 ⟨H26, hle28, S⟩
          have Rp_ppend3 := Sl.mono Rp_ppend3 hle28
          have Rp_x13 := Sl.mono Rp_x13 hle28
          refine WL.nil ?_
          rcases condE h with ⟨hc29, h⟩ | ⟨hc29, h⟩
          · refine WP.condT rfl hc29 ?_
            refine WP.seq ?_
            refine WP.region ?_
            refine WL.valw (R.as (v := (boo false)) rfl) ?_
            refine WL.nil ?_
            obtain rfl := Option.some.inj h
            refine WP.ret (Out.one rfl S rfl ?_)
            exact rfl
          · refine WP.condF rfl hc29 ?_
            refine WP.skip ?_
            refine WP.seq ?_
            refine WP.seq ?_
            refine WP.region ?_
            refine WL.valw (R.fieldB rfl fld26_3) ?_
            refine WL.valw (R.loadB (i := 1) (v := vp_x13) S rfl rfl lay22 rfl) ?_
            obtain ⟨r30, hr30, h⟩ := bindE h
            refine W.call S rfl (vary_Names_ok S.holds p_x1.fFields Rp_x13 hr30) ?_
            rintro v31 w32 H33 hle34 S ⟨u35, rfl, R36⟩
            have Rp_ppend3 := Sl.mono Rp_ppend3 hle34
            have Rp_x13 := Sl.mono Rp_x13 hle34
            refine WL.valw (R.mv (v := (.tuple ⟨[u35, (boo r30.2)]⟩)) rfl) ?_
            refine WL.valw (R.ext rfl rfl) ?_
            refine WL.valw (R.ext rfl rfl) ?_
            refine WL.valw (R.as (v := u35) rfl) ?_
            refine WL.valw (R.as (v := (boo r30.2)) rfl) ?_
            refine WL.nil ?_
            refine WP.seq ?_
            refine WP.region ?_
            refine WL.valw (R.mv (v := (boo r30.2)) rfl) ?_
            refine WL.valw (R.not rfl) ?_
            refine WL.nil ?_
            rcases condE h with ⟨hc37, h⟩ | ⟨hc37, h⟩
            · refine WP.condT rfl hc37 ?_
              refine WP.seq ?_
              refine WP.region ?_
              refine WL.valw (R.as (v := (boo false)) rfl) ?_
              refine WL.nil ?_
              obtain rfl := Option.some.inj h
              refine WP.ret (Out.one rfl S rfl ?_)
              exact rfl
            · refine WP.condF rfl hc37 ?_
              refine WP.skip ?_
              refine WP.seq ?_
              refine WP.seq ?_
              refine WP.region ?_
              refine WL.valw (R.fieldB rfl fld24_3) ?_
              refine WL.valw (R.loadB (i := 2) (v := vp_ppend3) S rfl rfl lay22 rfl) ?_
              obtain ⟨r38, hr38, h⟩ := bindE h
              refine W.call S rfl (fieldline_Has_ok S.holds p_ppend.fFields [82, 97, 110, 103, 101] Rp_ppend3 hr38) ?_
              rintro v39 w40 H41 hle42 S rfl
              have Rp_ppend3 := Sl.mono Rp_ppend3 hle42
              have Rp_x13 := Sl.mono Rp_x13 hle42
              have R36 := Sl.mono R36 hle42
              refine WL.nil ?_
              rcases condE h with ⟨hc43, h⟩ | ⟨hc43, h⟩
              · refine WP.condT rfl hc43 ?_
                refine WP.seq ?_
                refine WP.region ?_
                refine WL.valw (R.as (v := (boo false)) rfl) ?_
                refine WL.nil ?_
                obtain rfl := Option.some.inj h
                refine WP.ret (Out.one rfl S rfl ?_)
                exact rfl
              · refine WP.condF rfl hc43 ?_
                refine WP.skip ?_
                refine WP.seq ?_
                refine WP.seq ?_
                refine WP.region ?_
                refine WL.valw (R.fieldB rfl fld24_3) ?_
                refine WL.valw (R.loadB (i := 2) (v := vp_ppend3) S rfl rfl lay22 rfl) ?_
                obtain ⟨r44, hr44, h⟩ := bindE h
                refine W.call S rfl (fieldline_Has_ok S.holds p_ppend.fFields [65, 117, 116, 104, 111, 114, 105, 122, 97, 116, 105, 111, 110] Rp_ppend3 hr44) ?_
                rintro v45 w46 H47 hle48 S rfl
                have Rp_ppend3 := Sl.mono Rp_ppend3 hle48
                have Rp_x13 := Sl.mono Rp_x13 hle48
                have R36 := Sl.mono R36 hle48
                refine WL.valw (R.mv (v := (boo r44)) rfl) ?_
                refine WL.grp 4 [46, 47, 48] 49 (boo (r44 && (!r8.fMustRevalidate))) ?_ ?_
                · rcases boolE r44 with hb49 | hb49
                  · refine WL.gyes rfl rfl hb49 ?_
                    refine WL.valw (R.fieldB rfl fld36_2) ?_
                    refine WL.gyes rfl rfl hb49 ?_
                    refine WL.valw (R.loadB (i := 0) (v := (boo r8.fMustRevalidate)) S rfl rfl lay4 rfl) ?_
                    refine WL.gyes rfl rfl hb49 ?_
                    refine WL.valw (R.not rfl) ?_
                    refine WL.valw (R.pickT rfl hb49 rfl) ?_
                    exact WL.nil ⟨(andT hb49), (by repeat (first | refine agree_upd rfl ?_ | refine agree_upds' rfl ?_ | exact agree_refl)), rfl⟩
                  · refine WL.gno rfl rfl hb49 ?_
                    refine WL.gno rfl rfl hb49 ?_
                    refine WL.gno rfl rfl hb49 ?_
                    refine WL.valw (R.pickF rfl hb49 rfl) ?_
                    exact WL.nil ⟨(andF hb49), (by repeat (first | refine agree_upd rfl ?_ | refine agree_upds' rfl ?_ | exact agree_refl)), rfl⟩
                · intro us
                  refine WL.valw (R.mv (v := (boo (r44 && (!r8.fMustRevalidate)))) rfl) ?_
                  refine WL.grp 4 [51, 52, 53] 54 (boo ((r44 && (!r8.fMustRevalidate)) && (!r8.fPublic))) ?_ ?_
                  · rcases boolE (r44 && (!r8.fMustRevalidate)) with hb51 | hb51
                    · refine WL.gyes rfl rfl hb51 ?_
                      refine WL.valw (R.fieldB rfl fld36_5) ?_
                      refine WL.gyes rfl rfl hb51 ?_
                      refine WL.valw (R.loadB (i := 0) (v := (boo r8.fPublic)) S rfl rfl lay4 rfl) ?_
                      refine WL.gyes rfl rfl hb51 ?_
                      refine WL.valw (R.not rfl) ?_
                      refine WL.valw (R.pickT rfl hb51 rfl) ?_
                      exact WL.nil ⟨(andT hb51), (by repeat (first | refine agree_upd rfl ?_ | refine agree_upds' rfl ?_ | exact agree_refl)), rfl⟩
                    · refine WL.gno rfl rfl hb51 ?_
                      refine WL.gno rfl rfl hb51 ?_
                      refine WL.gno rfl rfl hb51 ?_
                      refine WL.valw (R.pickF rfl hb51 rfl) ?_
                      exact WL.nil ⟨(andF hb51), (by repeat (first | refine agree_upd rfl ?_ | refine agree_upds' rfl ?_ | exact agree_refl)), rfl⟩
                  · intro us
                    refine WL.valw (R.mv (v := (boo ((r44 && (!r8.fMustRevalidate)) && (!r8.fPublic)))) rfl) ?_
                    refine WL.grp 4 [56, 57, 58] 59 (boo (((r44 && (!r8.fMustRevalidate)) && (!r8.fPublic)) && (r8.fSMaxAge == (-1)))) ?_ ?_
                    · rcases boolE ((r44 && (!r8.fMustRevalidate)) && (!r8.fPublic)) with hb53 | hb53
                      · refine WL.gyes rfl rfl hb53 ?_
                        refine WL.valw (R.fieldB rfl fld36_8) ?_
                        refine WL.gyes rfl rfl hb53 ?_
                        refine WL.valw (R.loadB (i := 0) (v := (int r8.fSMaxAge)) S rfl rfl lay3 rfl) ?_
                        refine WL.gyes rfl rfl hb53 ?_
                        refine WL.valw (R.eql rfl rfl) ?_
                        refine WL.valw (R.pickT rfl hb53 rfl) ?_
                        exact WL.nil ⟨(andT hb53), (by repeat (first | refine agree_upd rfl ?_ | refine agree_upds' rfl ?_ | exact agree_refl)), rfl⟩
                      · refine WL.gno rfl rfl hb53 ?_
                        refine WL.gno rfl rfl hb53 ?_
                        refine WL.gno rfl rfl hb53 ?_
                        refine WL.valw (R.pickF rfl hb53 rfl) ?_
                        exact WL.nil ⟨(andF hb53), (by repeat (first | refine agree_upd rfl ?_ | refine agree_upds' rfl ?_ | exact agree_refl)), rfl⟩
                    · intro us
                      refine WL.nil ?_
                      rcases condE h with ⟨hc55, h⟩ | ⟨hc55, h⟩
                      · refine WP.condT rfl hc55 ?_
                        refine WP.seq ?_
                        refine WP.region ?_
                        refine WL.valw (R.as (v := (boo false)) rfl) ?_
                        refine WL.nil ?_
                        obtain rfl := Option.some.inj h
                        refine WP.ret (Out.one rfl S rfl ?_)
                        exact rfl
                      · refine WP.condF rfl hc55 ?_
                        refine WP.skip ?_
                        refine WP.seq ?_
                        refine WP.region ?_
                        refine WL.valw (R.fieldB rfl fld26_3) ?_
                        refine WL.valw (R.loadB (i := 1) (v := vp_x13) S rfl rfl lay22 rfl) ?_
                        obtain ⟨r56, hr56, h⟩ := bindE h
                        refine W.call S rfl (freshness_Lifetime_ok S.holds p_x1.fFields Rp_x13 hr56) ?_
                        rintro v57 w58 H59 hle60 S rfl
                        have Rp_ppend3 := Sl.mono Rp_ppend3 hle60
                        have Rp_x13 := Sl.mono Rp_x13 hle60
                        have R36 := Sl.mono R36 hle60
                        refine WL.valw (R.gtr rfl rfl) ?_
                        refine WL.valw (R.mv (v := (boo (decide (0 < r56)))) rfl) ?_
                        obtain ⟨b68, hg62, h⟩ := bindE h
                        refine WL.grpw 4 [65, 66, 67] 68 (boo b68) (fun w => ∃ H' : Hp, H59.le H' ∧ St w0 H0 w H' [.box b13 36 [(boo r8.fNoStore), (boo r8.fNoCache), (boo r8.fMustRevalidate), (boo r8.fProxyRevalidate), (boo r8.fPrivate), (boo r8.fPublic), (boo r8.fOnlyIfCached), (int r8.fMaxAge), (int r8.fSMaxAge), (int r8.fMinFresh), (int r8.fMaxStale)], .box b3 26 [(int p_x1.fMinor), (int p_x1.fStatus), (str p_x1.fReason), vp_x13, (str p_x1.fBody)], .box b1 24 [(str p_ppend.fMethod), (str p_ppend.fTarget), (int p_ppend.fMinor), vp_ppend3, (str p_ppend.fBody)]]) ?_ ?_
                        · rcases boolE (decide (0 < r56)) with hb61 | hb61
                          · replace hg62 := condT hg62 hb61
                            refine WL.gno rfl rfl hb61 ?_
                            refine WL.gno rfl rfl hb61 ?_
                            refine WL.gno rfl rfl hb61 ?_
                            refine WL.valw (R.pickT rfl hb61 rfl) ?_
                            exact WL.nil ⟨(congrArg boo (Option.some.inj hg62)), (by repeat (first | refine agree_upd rfl ?_ | refine agree_upds' rfl ?_ | exact agree_refl)), ⟨H59, (Hp.le.refl _), S⟩⟩
                          · replace hg62 := condF hg62 hb61
                            refine WL.gyes rfl rfl hb61 ?_
                            refine WL.valw (R.fieldB rfl fld26_3) ?_
                            refine WL.gyes rfl rfl hb61 ?_
                            refine WL.valw (R.loadB (i := 1) (v := vp_x13) S rfl rfl lay22 rfl) ?_
                            refine WL.gyes rfl rfl hb61 ?_
                            obtain ⟨r63, hr63, hg62⟩ := bindE hg62
                            refine W.call S rfl (storable_Validator_ok S.holds p_x1.fFields Rp_x13 hr63) ?_
                            rintro v64 w65 H66 hle67 S rfl
                            have Rp_ppend3 := Sl.mono Rp_ppend3 hle67
                            have Rp_x13 := Sl.mono Rp_x13 hle67
                            have R36 := Sl.mono R36 hle67
                            refine WL.valw (R.pickF rfl hb61 rfl) ?_
                            exact WL.nil ⟨(congrArg boo (Option.some.inj hg62)), (by repeat (first | refine agree_upd rfl ?_ | refine agree_upds' rfl ?_ | exact agree_refl)), ⟨H66, hle67, S⟩⟩
                        · intro us w70 ⟨H69, hle71, S⟩
                          have Rp_ppend3 := Sl.mono Rp_ppend3 hle71
                          have Rp_x13 := Sl.mono Rp_x13 hle71
                          have R36 := Sl.mono R36 hle71
                          refine WL.valw (R.as (v := (boo b68)) rfl) ?_
                          refine WL.nil ?_
                          obtain rfl := Option.some.inj h
                          refine WP.ret (Out.one rfl S rfl ?_)
                          exact rfl
set_option maxRecDepth 10000 in
set_option maxHeartbeats 4000000 in
theorem ref01_Lower_ok {w0 : World} {H0 : Hp} (hw : Holds w0 H0) (p_s : Str) {r : Str} (h : ref01_Lower p_s = some r) :
    Con Tryz.prog 50 [(str p_s)] w0 H0 (fun H' v => v = (str r)) := by
  refine Con.mk (N := 33) Tryz.func50 rfl rfl (by kernel_rfl) rfl ?_
  have S := St.start hw
  refine WP.seq ?_
  refine WP.region ?_
  refine WL.valw (R.as (v := (str [])) rfl) ?_
  refine WL.nil ?_
  refine WP.seq ?_
  refine WP.region ?_
  refine WL.valw (R.mv (v := (str p_s)) rfl) ?_
  refine W.bytes (s := p_s) S rfl Tryz.underlying9 Tryz.underlying86 Tryz.underlying5 ?_
  intro b1 c2 w3 hc2 S
  refine WL.valw (R.as (v := (.slice (some ⟨b1, 0, none⟩) p_s.length c2)) rfl) ?_
  refine WL.nil ?_
  refine WP.seq ?_
  refine WP.seq ?_
  refine WP.region ?_
  refine WL.valw (R.as (v := (int 0)) rfl) ?_
  refine WL.nil ?_
  obtain ⟨m12, hr18, h⟩ := bindE h
  refine WP.cut (fun f w => ∃ (H10 : Hp), f 3 = (.slice (some ⟨b1, 0, none⟩) p_s.length c2) ∧ m12.length = p_s.length ∧ St w0 H0 w H10 [.box b1 5 (m12.map byt)]) ?_ ?_
  · refine WP.block ?_
    refine WP.loopM (ref01_Lower_L0 p_s) (fun s f w => match s with | (i_6, m8) => ∃ (H4 : Hp), f 3 = (.slice (some ⟨b1, 0, none⟩) p_s.length c2) ∧ f 4 = (int i_6) ∧ m8.length = p_s.length ∧ St w0 H0 w H4 [.box b1 5 (m8.map byt)]) (0, p_s) m12 hr18 ?_ ?_
    · exact ⟨H0, rfl, rfl, rfl, S⟩
    · intro s f w hI y14 hy15 hy16
      obtain ⟨i_6, m8⟩ := s
      obtain ⟨H4, h5, h7, hL9, S⟩ := hI
      refine WP.seq ?_
      refine WP.seq ?_
      refine WP.region ?_
      refine WL.valw (R.mv (v := (int i_6)) h7) ?_
      refine WL.valw (R.mv (v := (.slice (some ⟨b1, 0, none⟩) p_s.length c2)) h5) ?_
      refine WL.valw (R.lenV rfl Tryz.underlying86) ?_
      refine WL.valw (R.lss rfl rfl) ?_
      refine WL.nil ?_
      rcases condE hy15 with ⟨hc19, hy15⟩ | ⟨hc19, hy15⟩
      · refine WP.condT rfl hc19 ?_
        refine WP.skip ?_
        refine WP.seq ?_
        refine WP.block ?_
        refine WP.seq ?_
        refine WP.region ?_
        refine WL.valw (R.mv (v := (.slice (some ⟨b1, 0, none⟩) p_s.length c2)) h5) ?_
        refine WL.valw (R.mv (v := (int i_6)) h7) ?_
        obtain ⟨c20, hc20, hy15⟩ := bindE hy15
        have hq21 := (map_byt_get hc20).2
        refine WL.valw (R.idxB rfl rfl el86 (by have := (map_byt_get hc20).2; have hl : m8.length = p_s.length := hL9; omega)) ?_
        obtain ⟨c22, hc22, hy15⟩ := bindE hy15
        refine WL.valw (R.loadB (i := 0) S rfl rfl lay5 (map_byt_get hc22).1) ?_
        refine WL.valw (R.geq8 (a := c22) (b := 65) rfl rfl) ?_
        refine WL.valw (R.mv (v := (boo (decide (65 ≤ c22)))) rfl) ?_
        obtain ⟨b28, hg24, hy15⟩ := bindE hy15
        refine WL.grp 6 [19, 20, 21, 22, 23] 24 (boo b28) ?_ ?_
        · rcases boolE (decide (65 ≤ c22)) with hb23 | hb23
          · replace hg24 := condT hg24 hb23
            refine WL.gyes rfl rfl hb23 ?_
            refine WL.valw (R.mv (v := (.slice (some ⟨b1, 0, none⟩) p_s.length c2)) h5) ?_
            refine WL.gyes rfl rfl hb23 ?_
            refine WL.valw (R.mv (v := (int i_6)) h7) ?_
            refine WL.gyes rfl rfl hb23 ?_
            obtain ⟨c25, hc25, hg24⟩ := bindE hg24
            have hq26 := (map_byt_get hc25).2
            refine WL.valw (R.idxB rfl rfl el86 (by have := (map_byt_get hc25).2; have hl : m8.length = p_s.length := hL9; omega)) ?_
            refine WL.gyes rfl rfl hb23 ?_
            obtain ⟨c27, hc27, hg24⟩ := bindE hg24
            refine WL.valw (R.loadB (i := 0) S rfl rfl lay5 (map_byt_get hc27).1) ?_
            refine WL.gyes rfl rfl hb23 ?_
            refine WL.valw (R.leq8 (a := c27) (b := 90) rfl rfl) ?_
            refine WL.valw (R.pickT rfl hb23 rfl) ?_
            exact WL.nil ⟨(congrArg boo (Option.some.inj hg24)), (by repeat (first | refine agree_upd rfl ?_ | refine agree_upds' rfl ?_ | exact agree_refl)), rfl⟩
          · replace hg24 := condF hg24 hb23
            refine WL.gno rfl rfl hb23 ?_
            refine WL.gno rfl rfl hb23 ?_
            refine WL.gno rfl rfl hb23 ?_
            refine WL.gno rfl rfl hb23 ?_
            refine WL.gno rfl rfl hb23 ?_
            refine WL.valw (R.pickF rfl hb23 rfl) ?_
            exact WL.nil ⟨(congrArg boo (Option.some.inj hg24)), (by repeat (first | refine agree_upd rfl ?_ | refine agree_upds' rfl ?_ | exact agree_refl)), rfl⟩
        · intro us
          refine WL.nil ?_
          rcases condE hy15 with ⟨hc29, hy15⟩ | ⟨hc29, hy15⟩
          · refine WP.condT rfl hc29 ?_
            refine WP.region ?_
            refine WL.valw (R.mv (v := (.slice (some ⟨b1, 0, none⟩) p_s.length c2)) h5) ?_
            refine WL.valw (R.mv (v := (int i_6)) h7) ?_
            obtain ⟨c30, hc30, hy15⟩ := bindE hy15
            have hq31 := (map_byt_get hc30).2
            refine WL.valw (R.idxB rfl rfl el86 (by have := (map_byt_get hc30).2; have hl : m8.length = p_s.length := hL9; omega)) ?_
            obtain ⟨c32, hc32, hy15⟩ := bindE hy15
            refine WL.valw (R.loadB (i := 0) S rfl rfl lay5 (map_byt_get hc32).1) ?_
            refine WL.valw (R.add8 (a := c32) (b := 32) rfl rfl) ?_
            obtain ⟨c33, hc33, hy15⟩ := bindE hy15
            have hq34 := (map_byt_get hc33).2
            refine WL.valw (R.idxB rfl rfl el86 (by have := (map_byt_get hc33).2; have hl : m8.length = p_s.length := hL9; omega)) ?_
            refine W.store (i := 0) ((m8.set i_6.toNat (c32 + 32)).map byt) S rfl rfl rfl lay5 rfl rfl (by rw [List.length_map]; omega) (splice_byt _ _ _ (by omega)) ?_
            intro w35 S
            refine WL.nil ?_
            refine WP.region ?_
            refine WL.valw (R.mv (v := (int i_6)) h7) ?_
            refine WL.valw (R.add rfl rfl) ?_
            refine WL.valw (R.as (v := (int (wr (i_6 + 1)))) rfl) ?_
            refine WL.nil ?_
            obtain rfl := Option.some.inj hy15
            exact ⟨rfl, ⟨H4, h5, rfl, (List.length_set.trans hL9), S⟩⟩
          · refine WP.condF rfl hc29 ?_
            refine WP.skip ?_
            refine WP.region ?_
            refine WL.valw (R.mv (v := (int i_6)) h7) ?_
            refine WL.valw (R.add rfl rfl) ?_
            refine WL.valw (R.as (v := (int (wr (i_6 + 1)))) rfl) ?_
            refine WL.nil ?_
            obtain rfl := Option.some.inj hy15
            exact ⟨rfl, ⟨H4, h5, rfl, hL9, S⟩⟩
      · refine WP.condF rfl hc19 ?_
        refine WP.exit ?_
        obtain rfl := Option.some.inj hy15
        obtain rfl := hy16
        exact ⟨H4, h5, hL9, S⟩
  · rintro f w ⟨H10, h11, hL13, S⟩
    refine WP.seq ?_
    refine WP.region ?_
    refine WL.valw (R.mv (v := (.slice (some ⟨b1, 0, none⟩) p_s.length c2)) h11) ?_
    refine WL.valw (R.strB (i := 0) (s := m12) S (by rw [show m12.length = p_s.length from hL13]; exact rfl) rfl Tryz.underlying86 Tryz.underlying9 Tryz.underlying5) ?_
    refine WL.valw (R.as (v := (str m12)) rfl) ?_
    refine WL.nil ?_
    obtain rfl := Option.some.inj h
    refine WP.ret (Out.one rfl S rfl ?_)
    exact rfl
set_option maxRecDepth 10000 in
set_option maxHeartbeats 4000000 in
theorem ref01_Fold_ok {w0 : World} {H0 : Hp} (hw : Holds w0 H0) (p_a : Str) (p_b : Str) {r : Bool} (h : ref01_Fold p_a p_b = some r) :
    Con Tryz.prog 46 [(str p_a), (str p_b)] w0 H0 (fun H' v => v = (boo r)) := by
  refine Con.mk (N := 17) Tryz.func46 rfl rfl (by kernel_rfl) rfl ?_
  have S := St.start hw
  refine WP.seq ?_
  refine WP.region ?_
  refine WL.valw (R.as (v := (boo false)) rfl) ?_
  refine WL.nil ?_
  refine WP.seq ?_
  refine WP.region ?_
  refine WL.valw (R.mv (v := (str p_a)) rfl) ?_
  refine WL.valw (R.lenS (a := p_a) rfl Tryz.underlying9) ?_
  refine WL.valw (R.mv (v := (str p_b)) rfl) ?_
  refine WL.valw (R.lenS (a := p_b) rfl Tryz.underlying9) ?_
  refine WL.valw (R.eql rfl rfl) ?_
  refine WL.valw (R.mv (v := (boo ((p_a.length : Int) == (p_b.length : Int)))) rfl) ?_
  obtain ⟨b13, hg2, h⟩ := bindE h
  refine WL.grpw 6 [11, 12, 13, 14, 15] 16 (boo b13) (fun w => ∃ H' : Hp, H0.le H' ∧ St w0 H0 w H' []) ?_ ?_
  · rcases boolE ((p_a.length : Int) == (p_b.length : Int)) with hb1 | hb1
    · replace hg2 := condT hg2 hb1
      refine WL.gyes rfl rfl hb1 ?_
      refine WL.valw (R.mv (v := (str p_a)) rfl) ?_
      refine WL.gyes rfl rfl hb1 ?_
      obtain ⟨r3, hr3, hg2⟩ := bindE hg2
      refine W.call S rfl (ref01_Lower_ok S.holds p_a hr3) ?_
      rintro v4 w5 H6 hle7 S rfl
      refine WL.gyes rfl rfl hb1 ?_
      refine WL.valw (R.mv (v := (str p_b)) rfl) ?_
      refine WL.gyes rfl rfl hb1 ?_
      obtain ⟨r8, hr8, hg2⟩ := bindE hg2
      refine W.call S rfl (ref01_Lower_ok S.holds p_b hr8) ?_
      rintro v9 w10 H11 hle12 S rfl
      refine WL.gyes rfl rfl hb1 ?_
      refine WL.valw (R.eqlS (a := r3) (b := r8) rfl rfl) ?_
      refine WL.valw (R.pickT rfl hb1 rfl) ?_
      exact WL.nil ⟨(congrArg boo (Option.some.inj hg2)), (by repeat (first | refine agree_upd rfl ?_ | refine agree_upds' rfl ?_ | exact agree_refl)), ⟨H11, (hle7.trans hle12), S⟩⟩
    · replace hg2 := condF hg2 hb1
      refine WL.gno rfl rfl hb1 ?_
      refine WL.gno rfl rfl hb1 ?_
      refine WL.gno rfl rfl hb1 ?_
      refine WL.gno rfl rfl hb1 ?_
      refine WL.gno rfl rfl hb1 ?_
      refine WL.valw (R.pickF rfl hb1 rfl) ?_
      exact WL.nil ⟨(congrArg boo (Option.some.inj hg2)), (by repeat (first | refine agree_upd rfl ?_ | refine agree_upds' rfl ?_ | exact agree_refl)), ⟨H0, (Hp.le.refl _), S⟩⟩
  · intro us w15 ⟨H14, hle16, S⟩
    refine WL.valw (R.as (v := (boo b13)) rfl) ?_
    refine WL.nil ?_
    obtain rfl := Option.some.inj h
    refine WP.ret (Out.one rfl S rfl ?_)
    exact rfl
set_option maxRecDepth 10000 in
set_option maxHeartbeats 4000000 in
theorem ref01_Get_ok {w0 : World} {H0 : Hp} (hw : Holds w0 H0) (p_l : (List GField)) (p_name : Str) {vp_l : Value} (Rp_l : Sl (α := GField) H0 vp_l p_l) {r : (List Str)} (h : ref01_Get p_l p_name = some r) :
    Con Tryz.prog 51 [vp_l, (str p_name)] w0 H0 (fun H' v => Sl (α := Str) H' v r) := by
  refine Con.mk (N := 29) Tryz.func51 rfl rfl (by kernel_rfl) rfl ?_
  have S := St.start hw
  refine WP.seq ?_
  refine WP.region ?_
  refine WL.valw (R.as (v := (.slice none 0 0)) rfl) ?_
  refine WL.nil ?_
  refine WP.seq ?_
  refine WP.region ?_
  refine WL.valw (R.as (v := (.slice none 0 0)) rfl) ?_
  refine WL.nil ?_
  refine WP.seq ?_
  refine WP.seq ?_
  refine WP.region ?_
  refine WL.valw (R.as (v := (int 0)) rfl) ?_
  refine WL.nil ?_
  have S := S.addNil 9 1
  obtain ⟨out_11, hr19, h⟩ := bindE h
  refine WP.cut (fun f w => ∃ (H10 : Hp) (v12 : Value), f 5 = v12 ∧ Sl (α := Str) H10 v12 out_11 ∧ St w0 H0 w H10 [.row v12 9 1 out_11.length]) ?_ ?_
  · refine WP.block ?_
    refine WP.loopM (ref01_Get_L0 p_l p_name) (fun s f w => match s with | (out_4, i_8) => ∃ (H1 : Hp) (v5 : Value), f 0 = vp_l ∧ f 1 = (str p_name) ∧ f 5 = v5 ∧ f 6 = (int i_8) ∧ Sl (α := GField) H1 vp_l p_l ∧ Sl (α := Str) H1 v5 out_4 ∧ St w0 H0 w H1 [.row v5 9 1 out_4.length]) (([] : List Str), 0) out_11 hr19 ?_ ?_
    · exact ⟨H0, .slice none 0 0, rfl, rfl, rfl, rfl, Rp_l, Sl.nil, S⟩
    · intro s f w hI y15 hy16 hy17
      obtain ⟨out_4, i_8⟩ := s
      obtain ⟨H1, v5, h2, h3, h7, h9, Rp_l, R6, S⟩ := hI
      refine WP.seq ?_
      refine WP.seq ?_
      refine WP.region ?_
      refine WL.valw (R.mv (v := (int i_8)) h9) ?_
      refine WL.valw (R.mv (v := vp_l) h2) ?_
      refine WL.valw (R.lenL (α := GField) (xs := p_l) (H := H1) Rp_l rfl Tryz.underlying22) ?_
      refine WL.valw (R.lss rfl rfl) ?_
      refine WL.nil ?_
      rcases condE hy16 with ⟨hc20, hy16⟩ | ⟨hc20, hy16⟩
      · refine WP.condT rfl hc20 ?_
        refine WP.skip ?_
        refine WP.seq ?_
        refine WP.block ?_
        refine WP.seq ?_
        refine WP.region ?_
        refine WL.valw (R.mv (v := vp_l) h2) ?_
        refine WL.valw (R.mv (v := (int i_8)) h9) ?_
        obtain ⟨x21, hx21, hy16⟩ := bindE hy16
        refine W.idx (α := GField) Rp_l rfl rfl el22 hx21 ?_
        rintro a22 _ hA23 rfl
        refine WL.valw (R.field rfl fld42_0) ?_
        have hA24 := At.add hA23 0 (by simp)
        refine WL.valw (R.loadH (v := (str x21.fName)) S rfl hA24 lay9 rfl) ?_
        refine WL.valw (R.mv (v := (str p_name)) h3) ?_
        obtain ⟨r25, hr25, hy16⟩ := bindE hy16
        refine W.call S rfl (ref01_Fold_ok S.holds x21.fName p_name hr25) ?_
        rintro v26 w27 H28 hle29 S rfl
        have Rp_l := Sl.mono Rp_l hle29
        have R6 := Sl.mono R6 hle29
        have hA23 := At.mono hA23 hle29 (by simp)
        have hA24 := At.mono hA24 hle29 (by simp)
        refine WL.nil ?_
        rcases condE hy16 with ⟨hc30, hy16⟩ | ⟨hc30, hy16⟩
        · refine WP.condT rfl hc30 ?_
          refine WP.region ?_
          refine WL.valw (R.mv (v := v5) h7) ?_
          refine WL.valw (R.mv (v := vp_l) h2) ?_
          refine WL.valw (R.mv (v := (int i_8)) h9) ?_
          obtain ⟨x31, hx31, hy16⟩ := bindE hy16
          refine W.idx (α := GField) Rp_l rfl rfl el22 hx31 ?_
          rintro a32 _ hA33 rfl
          refine WL.valw (R.field rfl fld42_1) ?_
          have hA34 := At.add hA33 1 (by simp)
          refine WL.valw (R.loadH (v := (str x31.fValue)) S rfl hA34 lay9 rfl) ?_
          refine W.bslice (α := Str) [(str x31.fValue)] ([x31.fValue] : List Str) S el38 rfl rfl rfl (by decide) (Go.Eng.encS ⟨rfl, rfl⟩ enc0) ?_
          intro u35 w36 H37 hle38 R39 S
          have Rp_l := Sl.mono Rp_l hle38
          have R6 := Sl.mono R6 hle38
          have hA23 := At.mono hA23 hle38 (by simp)
          have hA24 := At.mono hA24 hle38 (by simp)
          have hA33 := At.mono hA33 hle38 (by simp)
          have hA34 := At.mono hA34 hle38 (by simp)
          obtain ⟨l40, hl40, hy16⟩ := bindE hy16
          refine W.app (α := Str) (i := 1) S el38 rfl rfl rfl R6 R39 hl40 ?_
          intro v41 w42 H43 hle44 R45 S
          have Rp_l := Sl.mono Rp_l hle44
          have R6 := Sl.mono R6 hle44
          have hA23 := At.mono hA23 hle44 (by simp)
          have hA24 := At.mono hA24 hle44 (by simp)
          have hA33 := At.mono hA33 hle44 (by simp)
          have hA34 := At.mono hA34 hle44 (by simp)
          have R39 := Sl.mono R39 hle44
          refine WL.valw (R.as (v := v41) rfl) ?_
          refine WL.nil ?_
          refine WP.region ?_
          refine WL.valw (R.mv (v := (int i_8)) h9) ?_
          refine WL.valw (R.add rfl rfl) ?_
          refine WL.valw (R.as (v := (int (wr (i_8 + 1)))) rfl) ?_
          refine WL.nil ?_
          obtain rfl := Option.some.inj hy16
          exact ⟨rfl, ⟨H43, v41, h2, h3, rfl, rfl, Rp_l, R45, (S.drop _ (.cons _ (.cons_cons _ .slnil)))⟩⟩
        · refine WP.condF rfl hc30 ?_
          refine WP.skip ?_
          refine WP.region ?_
          refine WL.valw (R.mv (v := (int i_8)) h9) ?_
          refine WL.valw (R.add rfl rfl) ?_
          refine WL.valw (R.as (v := (int (wr (i_8 + 1)))) rfl) ?_
          refine WL.nil ?_
          obtain rfl := Option.some.inj hy16
          exact ⟨rfl, ⟨H28, v5, h2, h3, h7, rfl, Rp_l, R6, S⟩⟩
      · refine WP.condF rfl hc20 ?_
        refine WP.exit ?_
        obtain rfl := Option.some.inj hy16
        obtain rfl := hy17
        exact ⟨H1, v5, h7, R6, S⟩
  · rintro f w ⟨H10, v12, h14, R13, S⟩
    refine WP.seq ?_
    refine WP.region ?_
    refine WL.valw (R.mv (v := v12) h14) ?_
    refine WL.valw (R.as (v := v12) rfl) ?_
    refine WL.nil ?_
    obtain rfl := Option.some.inj h
    refine WP.ret (Out.one rfl S rfl ?_)
    exact R13
set_option maxRecDepth 10000 in
set_option maxHeartbeats 4000000 in
theorem ref01_Cut_ok {w0 : World} {H0 : Hp} (hw : Holds w0 H0) (p_s : Str) (p_at : UInt8) {r : (List Str)} (h : ref01_Cut p_s p_at = some r) :
    Con Tryz.prog 94 [(str p_s), (byt p_at)] w0 H0 (fun H' v => Sl (α := Str) H' v r) := by
  refine Con.mk (N := 57) Tryz.func94 rfl rfl (by kernel_rfl) rfl ?_
  have S := St.start hw
  refine WP.seq ?_
  refine WP.region ?_
  refine WL.valw (R.as (v := (.slice none 0 0)) rfl) ?_
  refine WL.nil ?_
  refine WP.seq ?_
  refine WP.region ?_
  refine WL.valw (R.as (v := (.slice none 0 0)) rfl) ?_
  refine WL.nil ?_
  refine WP.seq ?_
  refine WP.region ?_
  refine WL.valw (R.as (v := (int 0)) rfl) ?_
  refine WL.valw (R.as (v := (boo false)) rfl) ?_
  refine WL.nil ?_
  refine WP.seq ?_
  refine WP.seq ?_
  refine WP.region ?_
  refine WL.valw (R.as (v := (int 0)) rfl) ?_
  refine WL.nil ?_
  have S := S.addNil 9 1
  obtain ⟨r25, hr26, h⟩ := bindE h
  refine WP.cut (fun f w => match r25 with | (out_16, from_20) => ∃ (H14 : Hp) (v17 : Value), f 0 = (str p_s) ∧ f 5 = v17 ∧ f 6 = (int from_20) ∧ Sl (α := Str) H14 v17 out_16 ∧ St w0 H0 w H14 [.row v17 9 1 out_16.length]) ?_ ?_
  · refine WP.block ?_
    refine WP.loopM (ref01_Cut_L0 p_s p_at) (fun s f w => match s with | (out_4, from_8, quoted_10, i_12) => ∃ (H1 : Hp) (v5 : Value), f 0 = (str p_s) ∧ f 1 = (byt p_at) ∧ f 5 = v5 ∧ f 6 = (int from_8) ∧ f 7 = (boo quoted_10) ∧ f 8 = (int i_12) ∧ Sl (α := Str) H1 v5 out_4 ∧ St w0 H0 w H1 [.row v5 9 1 out_4.length]) (([] : List Str), 0, false, 0) r25 hr26 ?_ ?_
    · exact ⟨H0, .slice none 0 0, rfl, rfl, rfl, rfl, rfl, rfl, Sl.nil, S⟩
    · intro s f w hI y22 hy23 hy24
      obtain ⟨out_4, from_8, quoted_10, i_12⟩ := s
      obtain ⟨H1, v5, h2, h3, h7, h9, h11, h13, R6, S⟩ := hI
      refine WP.seq ?_
      refine WP.seq ?_
      refine WP.region ?_
      refine WL.valw (R.mv (v := (int i_12)) h13) ?_
      refine WL.valw (R.mv (v := (str p_s)) h2) ?_
      refine WL.valw (R.lenS (a := p_s) rfl Tryz.underlying9) ?_
      refine WL.valw (R.lss rfl rfl) ?_
      refine WL.nil ?_
      rcases condE hy23 with ⟨hc27, hy23⟩ | ⟨hc27, hy23⟩
      · refine WP.condT rfl hc27 ?_
        refine WP.skip ?_
        refine WP.seq ?_
        refine WP.block ?_
        refine WP.block ?_
        refine WP.seq ?_
        refine WP.region ?_
        refine WL.valw (R.mv (v := (boo quoted_10)) h11) ?_
        refine WL.valw (R.mv (v := (boo quoted_10)) rfl) ?_
        obtain ⟨b31, hg29, hy23⟩ := bindE hy23
        refine WL.grp 5 [18, 19, 20, 21] 22 (boo b31) ?_ ?_
        · rcases boolE quoted_10 with hb28 | hb28
          · replace hg29 := condT hg29 hb28
            refine WL.gyes rfl rfl hb28 ?_
            refine WL.valw (R.mv (v := (str p_s)) h2) ?_
            refine WL.gyes rfl rfl hb28 ?_
            refine WL.valw (R.mv (v := (int i_12)) h13) ?_
            refine WL.gyes rfl rfl hb28 ?_
            obtain ⟨c30, hc30, hg29⟩ := bindE hg29
            refine WL.valw (R.idxS rfl rfl Tryz.underlying9 hc30) ?_
            refine WL.gyes rfl rfl hb28 ?_
            refine WL.valw (R.eql8 (a := c30) (b := 92) rfl rfl) ?_
            refine WL.valw (R.pickT rfl hb28 rfl) ?_
            exact WL.nil ⟨(congrArg boo (Option.some.inj hg29)), (by repeat (first | refine agree_upd rfl ?_ | refine agree_upds' rfl ?_ | exact agree_refl)), rfl⟩
          · replace hg29 := condF hg29 hb28
            refine WL.gno rfl rfl hb28 ?_
            refine WL.gno rfl rfl hb28 ?_
            refine WL.gno rfl rfl hb28 ?_
            refine WL.gno rfl rfl hb28 ?_
            refine WL.valw (R.pickF rfl hb28 rfl) ?_
            exact WL.nil ⟨(congrArg boo (Option.some.inj hg29)), (by repeat (first | refine agree_upd rfl ?_ | refine agree_upds' rfl ?_ | exact agree_refl)), rfl⟩
        · intro us
          refine WL.valw (R.as (v := (boo b31)) rfl) ?_
          refine WL.nil ?_
          rcases condE hy23 with ⟨hc32, hy23⟩ | ⟨hc32, hy23⟩
          · refine WP.condT rfl hc32 ?_
            refine WP.region ?_
            refine WL.valw (R.mv (v := (int i_12)) h13) ?_
            refine WL.valw (R.add rfl rfl) ?_
            refine WL.valw (R.as (v := (int (wr (i_12 + 1)))) rfl) ?_
            refine WL.nil ?_
            refine WP.region ?_
            refine WL.valw (R.mv (v := (int (wr (i_12 + 1)))) rfl) ?_
            refine WL.valw (R.add rfl rfl) ?_
            refine WL.valw (R.as (v := (int (wr ((wr (i_12 + 1)) + 1)))) rfl) ?_
            refine WL.nil ?_
            obtain rfl := Option.some.inj hy23
            exact ⟨rfl, ⟨H1, v5, h2, h3, h7, h9, h11, rfl, R6, S⟩⟩
          · refine WP.condF rfl hc32 ?_
            refine WP.seq ?_
            refine WP.region ?_
            refine WL.valw (R.mv (v := (str p_s)) h2) ?_
            refine WL.valw (R.mv (v := (int i_12)) h13) ?_
            obtain ⟨c33, hc33, hy23⟩ := bindE hy23
            refine WL.valw (R.idxS rfl rfl Tryz.underlying9 hc33) ?_
            refine WL.valw (R.eql8 (a := c33) (b := 34) rfl rfl) ?_
            refine WL.valw (R.as (v := (boo (c33 == 34))) rfl) ?_
            refine WL.nil ?_
            rcases condE hy23 with ⟨hc34, hy23⟩ | ⟨hc34, hy23⟩
            · refine WP.condT rfl hc34 ?_
              refine WP.region ?_
              refine WL.valw (R.mv (v := (boo quoted_10)) h11) ?_
              refine WL.valw (R.not rfl) ?_
              refine WL.valw (R.as (v := (boo (!quoted_10))) rfl) ?_
              refine WL.nil ?_
              refine WP.region ?_
              refine WL.valw (R.mv (v := (int i_12)) h13) ?_
              refine WL.valw (R.add rfl rfl) ?_
              refine WL.valw (R.as (v := (int (wr (i_12 + 1)))) rfl) ?_
              refine WL.nil ?_
              obtain rfl := Option.some.inj hy23
              exact ⟨rfl, ⟨H1, v5, h2, h3, h7, h9, rfl, rfl, R6, S⟩⟩
            · refine WP.condF rfl hc34 ?_
              refine WP.seq ?_
              refine WP.region ?_
              refine WL.valw (R.mv (v := (str p_s)) h2) ?_
              refine WL.valw (R.mv (v := (int i_12)) h13) ?_
              obtain ⟨c35, hc35, hy23⟩ := bindE hy23
              refine WL.valw (R.idxS rfl rfl Tryz.underlying9 hc35) ?_
              refine WL.valw (R.mv (v := (byt p_at)) h3) ?_
              refine WL.valw (R.eql8 (a := c35) (b := p_at) rfl rfl) ?_
              refine WL.valw (R.mv (v := (boo (c35 == p_at))) rfl) ?_
              refine WL.grp 3 [39, 40] 41 (boo ((c35 == p_at) && (!quoted_10))) ?_ ?_
              · rcases boolE (c35 == p_at) with hb36 | hb36
                · refine WL.gyes rfl rfl hb36 ?_
                  refine WL.valw (R.mv (v := (boo quoted_10)) h11) ?_
                  refine WL.gyes rfl rfl hb36 ?_
                  refine WL.valw (R.not rfl) ?_
                  refine WL.valw (R.pickT rfl hb36 rfl) ?_
                  exact WL.nil ⟨(andT hb36), (by repeat (first | refine agree_upd rfl ?_ | refine agree_upds' rfl ?_ | exact agree_refl)), rfl⟩
                · refine WL.gno rfl rfl hb36 ?_
                  refine WL.gno rfl rfl hb36 ?_
                  refine WL.valw (R.pickF rfl hb36 rfl) ?_
                  exact WL.nil ⟨(andF hb36), (by repeat (first | refine agree_upd rfl ?_ | refine agree_upds' rfl ?_ | exact agree_refl)), rfl⟩
              · intro us
                refine WL.valw (R.as (v := (boo ((c35 == p_at) && (!quoted_10)))) rfl) ?_
                refine WL.nil ?_
                rcases condE hy23 with ⟨hc38, hy23⟩ | ⟨hc38, hy23⟩
                · refine WP.condT rfl hc38 ?_
                  refine WP.seq ?_
                  refine WP.region ?_
                  refine WL.valw (R.mv (v := v5) h7) ?_
                  refine WL.valw (R.mv (v := (str p_s)) h2) ?_
                  refine WL.valw (R.mv (v := (int from_8)) h9) ?_
                  refine WL.valw (R.mv (v := (int i_12)) h13) ?_
                  obtain ⟨s39, hs39, hy23⟩ := bindE hy23
                  refine WL.valw (R.subS rfl rfl rfl Tryz.underlying9 hs39) ?_
                  refine W.bslice (α := Str) [(str s39)] ([s39] : List Str) S el38 rfl rfl rfl (by decide) (Go.Eng.encS ⟨rfl, rfl⟩ enc0) ?_
                  intro u40 w41 H42 hle43 R44 S
                  have R6 := Sl.mono R6 hle43
                  obtain ⟨l45, hl45, hy23⟩ := bindE hy23
                  refine W.app (α := Str) (i := 1) S el38 rfl rfl rfl R6 R44 hl45 ?_
                  intro v46 w47 H48 hle49 R50 S
                  have R6 := Sl.mono R6 hle49
                  have R44 := Sl.mono R44 hle49
                  refine WL.valw (R.as (v := v46) rfl) ?_
                  refine WL.nil ?_
                  refine WP.region ?_
                  refine WL.valw (R.mv (v := (int i_12)) h13) ?_
                  refine WL.valw (R.add rfl rfl) ?_
                  refine WL.valw (R.as (v := (int (wr (i_12 + 1)))) rfl) ?_
                  refine WL.nil ?_
                  refine WP.region ?_
                  refine WL.valw (R.mv (v := (int i_12)) h13) ?_
                  refine WL.valw (R.add rfl rfl) ?_
                  refine WL.valw (R.as (v := (int (wr (i_12 + 1)))) rfl) ?_
                  refine WL.nil ?_
                  obtain rfl := Option.some.inj hy23
                  exact ⟨rfl, ⟨H48, v46, h2, h3, rfl, rfl, h11, rfl, R50, (S.drop _ (.cons _ (.cons_cons _ .slnil)))⟩⟩
                · refine WP.condF rfl hc38 ?_
                  refine WP.skip ?_
                  refine WP.region ?_
                  refine WL.valw (R.mv (v := (int i_12)) h13) ?_
                  refine WL.valw (R.add rfl rfl) ?_
                  refine WL.valw (R.as (v := (int (wr (i_12 + 1)))) rfl) ?_
                  refine WL.nil ?_
                  obtain rfl := Option.some.inj hy23
                  exact ⟨rfl, ⟨H1, v5, h2, h3, h7, h9, h11, rfl, R6, S⟩⟩
      · refine WP.condF rfl hc27 ?_
        refine WP.exit ?_
        obtain rfl := Option.some.inj hy23
        obtain rfl := hy24
        exact ⟨H1, v5, h2, h7, h9, R6, S⟩
  · intro f w hM
    obtain ⟨out_16, from_20⟩ := r25
    obtain ⟨H14, v17, h15, h19, h21, R18, S⟩ := hM
    refine WP.seq ?_
    refine WP.region ?_
    refine WL.valw (R.mv (v := v17) h19) ?_
    refine WL.valw (R.mv (v := (str p_s)) h15) ?_
    refine WL.valw (R.mv (v := (int from_20)) h21) ?_
    obtain ⟨s51, hs51, h⟩ := bindE h
    refine WL.valw (R.subSlo rfl rfl Tryz.underlying9 hs51) ?_
    refine W.bslice (α := Str) [(str s51)] ([s51] : List Str) S el38 rfl rfl rfl (by decide) (Go.Eng.encS ⟨rfl, rfl⟩ enc0) ?_
    intro u52 w53 H54 hle55 R56 S
    have R18 := Sl.mono R18 hle55
    obtain ⟨l57, hl57, h⟩ := bindE h
    refine W.app (α := Str) (i := 1) S el38 rfl rfl rfl R18 R56 hl57 ?_
    intro v58 w59 H60 hle61 R62 S
    have R18 := Sl.mono R18 hle61
    have R56 := Sl.mono R56 hle61
    refine WL.valw (R.as (v := v58) rfl) ?_
    refine WL.nil ?_
    obtain rfl := Option.some.inj h
    refine WP.ret (Out.one rfl S rfl ?_)
    exact R62
set_option maxRecDepth 10000 in
set_option maxHeartbeats 4000000 in
theorem ref01_blank_ok {w0 : World} {H0 : Hp} (hw : Holds w0 H0) (p_c : UInt8) {r : Bool} (h : ref01_blank p_c = some r) :
    Con Tryz.prog 109 [(byt p_c)] w0 H0 (fun H' v => v = (boo r)) := by
  refine Con.mk (N := 9) Tryz.func109 rfl rfl (by kernel_rfl) rfl ?_
  have S := St.start hw
  refine WP.seq ?_
  refine WP.region ?_
  refine WL.valw (R.as (v := (boo false)) rfl) ?_
  refine WL.nil ?_
  refine WP.seq ?_
  refine WP.region ?_
  refine WL.valw (R.mv (v := (byt p_c)) rfl) ?_
  refine WL.valw (R.eql8 (a := p_c) (b := 32) rfl rfl) ?_
  refine WL.valw (R.mv (v := (boo (p_c == 32))) rfl) ?_
  refine WL.grp 3 [6, 7] 8 (boo ((p_c == 32) || (p_c == 9))) ?_ ?_
  · rcases boolE (p_c == 32) with hb1 | hb1
    · refine WL.gno rfl rfl hb1 ?_
      refine WL.gno rfl rfl hb1 ?_
      refine WL.valw (R.pickT rfl hb1 rfl) ?_
      exact WL.nil ⟨(orT hb1), (by repeat (first | refine agree_upd rfl ?_ | refine agree_upds' rfl ?_ | exact agree_refl)), rfl⟩
    · refine WL.gyes rfl rfl hb1 ?_
      refine WL.valw (R.mv (v := (byt p_c)) rfl) ?_
      refine WL.gyes rfl rfl hb1 ?_
      refine WL.valw (R.eql8 (a := p_c) (b := 9) rfl rfl) ?_
      refine WL.valw (R.pickF rfl hb1 rfl) ?_
      exact WL.nil ⟨(orF hb1), (by repeat (first | refine agree_upd rfl ?_ | refine agree_upds' rfl ?_ | exact agree_refl)), rfl⟩
  · intro us
    refine WL.valw (R.as (v := (boo ((p_c == 32) || (p_c == 9)))) rfl) ?_
    refine WL.nil ?_
    obtain rfl := Option.some.inj h
    refine WP.ret (Out.one rfl S rfl ?_)
    exact rfl
set_option maxRecDepth 10000 in
set_option maxHeartbeats 4000000 in
theorem ref01_Trim_ok {w0 : World} {H0 : Hp} (hw : Holds w0 H0) (p_s : Str) {r : Str} (h : ref01_Trim p_s = some r) :
    Con Tryz.prog 95 [(str p_s)] w0 H0 (fun H' v => v = (str r)) := by
  refine Con.mk (N := 30) Tryz.func95 rfl rfl (by kernel_rfl) rfl ?_
  have S := St.start hw
  refine WP.seq ?_
  refine WP.region ?_
  refine WL.valw (R.as (v := (str [])) rfl) ?_
  refine WL.nil ?_
  refine WP.seq ?_
  obtain ⟨s_5, hr11, h⟩ := bindE h
  refine WP.cut (fun f w => ∃ (H4 : Hp), f 0 = (str s_5) ∧ St w0 H0 w H4 []) ?_ ?_
  · refine WP.block ?_
    refine WP.loopM (ref01_Trim_L0) (fun s f w => match s with | s_2 => ∃ (H1 : Hp), f 0 = (str s_2) ∧ St w0 H0 w H1 []) p_s s_5 hr11 ?_ ?_
    · exact ⟨H0, rfl, S⟩
    · intro s_2 f w hI y7 hy8 hy9
      obtain ⟨H1, h3, S⟩ := hI
      refine WP.seq ?_
      refine WP.seq ?_
      refine WP.region ?_
      refine WL.valw (R.mv (v := (str s_2)) h3) ?_
      refine WL.valw (R.lenS (a := s_2) rfl Tryz.underlying9) ?_
      refine WL.valw (R.gtr rfl rfl) ?_
      refine WL.valw (R.mv (v := (boo (decide (0 < (s_2.length : Int))))) rfl) ?_
      obtain ⟨b20, hg13, hy8⟩ := bindE hy8
      refine WL.grpw 4 [7, 8, 9] 10 (boo b20) (fun w => ∃ H' : Hp, H1.le H' ∧ St w0 H0 w H' []) ?_ ?_
      · rcases boolE (decide (0 < (s_2.length : Int))) with hb12 | hb12
        · replace hg13 := condT hg13 hb12
          refine WL.gyes rfl rfl hb12 ?_
          refine WL.valw (R.mv (v := (str s_2)) h3) ?_
          refine WL.gyes rfl rfl hb12 ?_
          obtain ⟨c14, hc14, hg13⟩ := bindE hg13
          refine WL.valw (R.idxS rfl rfl Tryz.underlying9 hc14) ?_
          refine WL.gyes rfl rfl hb12 ?_
          obtain ⟨r15, hr15, hg13⟩ := bindE hg13
          refine W.call S rfl (ref01_blank_ok S.holds c14 hr15) ?_
          rintro v16 w17 H18 hle19 S rfl
          refine WL.valw (R.pickT rfl hb12 rfl) ?_
          exact WL.nil ⟨(congrArg boo (Option.some.inj hg13)), (by repeat (first | refine agree_upd rfl ?_ | refine agree_upds' rfl ?_ | exact agree_refl)), ⟨H18, hle19, S⟩⟩
        · replace hg13 := condF hg13 hb12
          refine WL.gno rfl rfl hb12 ?_
          refine WL.gno rfl rfl hb12 ?_
          refine WL.gno rfl rfl hb12 ?_
          refine WL.valw (R.pickF rfl hb12 rfl) ?_
          exact WL.nil ⟨(congrArg boo (Option.some.inj hg13)), (by repeat (first | refine agree_upd rfl ?_ | refine agree_upds' rfl ?_ | exact agree_refl)), ⟨H1, (Hp.le.refl _), S⟩⟩
      · intro us w22 ⟨H21, hle23, S⟩
        refine WL.nil ?_
        rcases condE hy8 with ⟨hc24, hy8⟩ | ⟨hc24, hy8⟩
        · refine WP.condT rfl hc24 ?_
          refine WP.skip ?_
          refine WP.block ?_
          refine WP.region ?_
          refine WL.valw (R.mv (v := (str s_2)) h3) ?_
          obtain ⟨s25, hs25, hy8⟩ := bindE hy8
          refine WL.valw (R.subSlo rfl rfl Tryz.underlying9 hs25) ?_
          refine WL.valw (R.as (v := (str s25)) rfl) ?_
          refine WL.nil ?_
          obtain rfl := Option.some.inj hy8
          exact ⟨rfl, ⟨H21, rfl, S⟩⟩
        · refine WP.condF rfl hc24 ?_
          refine WP.exit ?_
          obtain rfl := Option.some.inj hy8
          obtain rfl := hy9
          exact ⟨H21, h3, S⟩
  · rintro f w ⟨H4, h6, S⟩
    refine WP.seq ?_
    obtain ⟨s_30, hr36, h⟩ := bindE h
    refine WP.cut (fun f w => ∃ (H29 : Hp), f 0 = (str s_30) ∧ St w0 H0 w H29 []) ?_ ?_
    · refine WP.block ?_
      refine WP.loopM (ref01_Trim_L1) (fun s f w => match s with | s_27 => ∃ (H26 : Hp), f 0 = (str s_27) ∧ St w0 H0 w H26 []) s_5 s_30 hr36 ?_ ?_
      · exact ⟨H4, h6, S⟩
      · intro s_27 f w hI y32 hy33 hy34
        obtain ⟨H26, h28, S⟩ := hI
        refine WP.seq ?_
        refine WP.seq ?_
        refine WP.region ?_
        refine WL.valw (R.mv (v := (str s_27)) h28) ?_
        refine WL.valw (R.lenS (a := s_27) rfl Tryz.underlying9) ?_
        refine WL.valw (R.gtr rfl rfl) ?_
        refine WL.valw (R.mv (v := (boo (decide (0 < (s_27.length : Int))))) rfl) ?_
        obtain ⟨b45, hg38, hy33⟩ := bindE hy33
        refine WL.grpw 7 [17, 18, 19, 20, 21, 22] 23 (boo b45) (fun w => ∃ H' : Hp, H26.le H' ∧ St w0 H0 w H' []) ?_ ?_
        · rcases boolE (decide (0 < (s_27.length : Int))) with hb37 | hb37
          · replace hg38 := condT hg38 hb37
            refine WL.gyes rfl rfl hb37 ?_
            refine WL.valw (R.mv (v := (str s_27)) h28) ?_
            refine WL.gyes rfl rfl hb37 ?_
            refine WL.valw (R.mv (v := (str s_27)) h28) ?_
            refine WL.gyes rfl rfl hb37 ?_
            refine WL.valw (R.lenS (a := s_27) rfl Tryz.underlying9) ?_
            refine WL.gyes rfl rfl hb37 ?_
            refine WL.valw (R.sub rfl rfl) ?_
            refine WL.gyes rfl rfl hb37 ?_
            obtain ⟨c39, hc39, hg38⟩ := bindE hg38
            refine WL.valw (R.idxS rfl rfl Tryz.underlying9 hc39) ?_
            refine WL.gyes rfl rfl hb37 ?_
            obtain ⟨r40, hr40, hg38⟩ := bindE hg38
            refine W.call S rfl (ref01_blank_ok S.holds c39 hr40) ?_
            rintro v41 w42 H43 hle44 S rfl
            refine WL.valw (R.pickT rfl hb37 rfl) ?_
            exact WL.nil ⟨(congrArg boo (Option.some.inj hg38)), (by repeat (first | refine agree_upd rfl ?_ | refine agree_upds' rfl ?_ | exact agree_refl)), ⟨H43, hle44, S⟩⟩
          · replace hg38 := condF hg38 hb37
            refine WL.gno rfl rfl hb37 ?_
            refine WL.gno rfl rfl hb37 ?_
            refine WL.gno rfl rfl hb37 ?_
            refine WL.gno rfl rfl hb37 ?_
            refine WL.gno rfl rfl hb37 ?_
            refine WL.gno rfl rfl hb37 ?_
            refine WL.valw (R.pickF rfl hb37 rfl) ?_
            exact WL.nil ⟨(congrArg boo (Option.some.inj hg38)), (by repeat (first | refine agree_upd rfl ?_ | refine agree_upds' rfl ?_ | exact agree_refl)), ⟨H26, (Hp.le.refl _), S⟩⟩
        · intro us w47 ⟨H46, hle48, S⟩
          refine WL.nil ?_
          rcases condE hy33 with ⟨hc49, hy33⟩ | ⟨hc49, hy33⟩
          · refine WP.condT rfl hc49 ?_
            refine WP.skip ?_
            refine WP.block ?_
            refine WP.region ?_
            refine WL.valw (R.mv (v := (str s_27)) h28) ?_
            refine WL.valw (R.mv (v := (str s_27)) h28) ?_
            refine WL.valw (R.lenS (a := s_27) rfl Tryz.underlying9) ?_
            refine WL.valw (R.sub rfl rfl) ?_
            obtain ⟨s50, hs50, hy33⟩ := bindE hy33
            refine WL.valw (R.subShi rfl rfl Tryz.underlying9 hs50) ?_
            refine WL.valw (R.as (v := (str s50)) rfl) ?_
            refine WL.nil ?_
            obtain rfl := Option.some.inj hy33
            exact ⟨rfl, ⟨H46, rfl, S⟩⟩
          · refine WP.condF rfl hc49 ?_
            refine WP.exit ?_
            obtain rfl := Option.some.inj hy33
            obtain rfl := hy34
            exact ⟨H46, h28, S⟩
    · rintro f w ⟨H29, h31, S⟩
      refine WP.seq ?_
      refine WP.region ?_
      refine WL.valw (R.mv (v := (str s_30)) h31) ?_
      refine WL.valw (R.as (v := (str s_30)) rfl) ?_
      refine WL.nil ?_
      obtain rfl := Option.some.inj h
      refine WP.ret (Out.one rfl S rfl ?_)
      exact rfl
set_option maxRecDepth 10000 in
set_option maxHeartbeats 4000000 in
theorem ref01_Split_ok {w0 : World} {H0 : Hp} (hw : Holds w0 H0) (p_value : Str) {r : (List Str)} (h : ref01_Split p_value = some r) :
    Con Tryz.prog 69 [(str p_value)] w0 H0 (fun H' v => Sl (α := Str) H' v r) := by
  refine Con.mk (N := 32) Tryz.func69 rfl rfl (by kernel_rfl) rfl ?_
  have S := St.start hw
  refine WP.seq ?_
  refine WP.region ?_
  refine WL.valw (R.as (v := (.slice none 0 0)) rfl) ?_
  refine WL.nil ?_
  refine WP.seq ?_
  refine WP.region ?_
  refine WL.valw (R.as (v := (.slice none 0 0)) rfl) ?_
  refine WL.nil ?_
  refine WP.seq ?_
  refine WP.region ?_
  refine WL.valw (R.mv (v := (str p_value)) rfl) ?_
  obtain ⟨r1, hr1, h⟩ := bindE h
  refine W.call S rfl (ref01_Cut_ok S.holds p_value 44 hr1) ?_
  rintro v2 w3 H4 hle5 S R6
  refine WL.valw (R.as (v := v2) rfl) ?_
  refine WL.nil ?_
  refine WP.seq ?_
  refine WP.seq ?_
  refine WP.region ?_
  refine WL.valw (R.as (v := (int 0)) rfl) ?_
  refine WL.nil ?_
  have S := S.addNil 9 1
  obtain ⟨out_16, hr24, h⟩ := bindE h
  refine WP.cut (fun f w => ∃ (H15 : Hp) (v17 : Value), f 3 = v17 ∧ Sl (α := Str) H15 v17 out_16 ∧ St w0 H0 w H15 [.row v17 9 1 out_16.length]) ?_ ?_
  · refine WP.block ?_
    refine WP.loopM (ref01_Split_L0 r1) (fun s f w => match s with | (out_8, i_13) => ∃ (H7 : Hp) (v9 : Value), f 3 = v9 ∧ f 4 = v2 ∧ f 5 = (int i_13) ∧ Sl (α := Str) H7 v9 out_8 ∧ Sl (α := Str) H7 v2 r1 ∧ St w0 H0 w H7 [.row v9 9 1 out_8.length]) (([] : List Str), 0) out_16 hr24 ?_ ?_
    · exact ⟨H4, .slice none 0 0, rfl, rfl, rfl, Sl.nil, R6, S⟩
    · intro s f w hI y20 hy21 hy22
      obtain ⟨out_8, i_13⟩ := s
      obtain ⟨H7, v9, h11, h12, h14, R10, R6, S⟩ := hI
      refine WP.seq ?_
      refine WP.seq ?_
      refine WP.region ?_
      refine WL.valw (R.mv (v := (int i_13)) h14) ?_
      refine WL.valw (R.mv (v := v2) h12) ?_
      refine WL.valw (R.lenL (α := Str) (xs := r1) (H := H7) R6 rfl Tryz.underlying38) ?_
      refine WL.valw (R.lss rfl rfl) ?_
      refine WL.valw (R.mv (v := (boo (decide (i_13 < (r1.length : Int))))) rfl) ?_
      refine WL.grp 4 [14, 15, 16] 17 (boo ((decide (i_13 < (r1.length : Int))) && (decide ((out_8.length : Int) < 64)))) ?_ ?_
      · rcases boolE (decide (i_13 < (r1.length : Int))) with hb25 | hb25
        · refine WL.gyes rfl rfl hb25 ?_
          refine WL.valw (R.mv (v := v9) h11) ?_
          refine WL.gyes rfl rfl hb25 ?_
          refine WL.valw (R.lenL (α := Str) (xs := out_8) (H := H7) R10 rfl Tryz.underlying38) ?_
          refine WL.gyes rfl rfl hb25 ?_
          refine WL.valw (R.lss rfl rfl) ?_
          refine WL.valw (R.pickT rfl hb25 rfl) ?_
          exact WL.nil ⟨(andT hb25), (by repeat (first | refine agree_upd rfl ?_ | refine agree_upds' rfl ?_ | exact agree_refl)), rfl⟩
        · refine WL.gno rfl rfl hb25 ?_
          refine WL.gno rfl rfl hb25 ?_
          refine WL.gno rfl rfl hb25 ?_
          refine WL.valw (R.pickF rfl hb25 rfl) ?_
          exact WL.nil ⟨(andF hb25), (by repeat (first | refine agree_upd rfl ?_ | refine agree_upds' rfl ?_ | exact agree_refl)), rfl⟩
      · intro us
        refine WL.nil ?_
        rcases condE hy21 with ⟨hc27, hy21⟩ | ⟨hc27, hy21⟩
        · refine WP.condT rfl hc27 ?_
          refine WP.skip ?_
          refine WP.seq ?_
          refine WP.block ?_
          refine WP.seq ?_
          refine WP.region ?_
          refine WL.valw (R.mv (v := v2) h12) ?_
          refine WL.valw (R.mv (v := (int i_13)) h14) ?_
          obtain ⟨x28, hx28, hy21⟩ := bindE hy21
          refine W.idx (α := Str) R6 rfl rfl el38 hx28 ?_
          rintro a29 _ hA30 rfl
          refine WL.valw (R.loadH (v := (str x28)) S rfl hA30 lay9 rfl) ?_
          obtain ⟨r31, hr31, hy21⟩ := bindE hy21
          refine W.call S rfl (ref01_Trim_ok S.holds x28 hr31) ?_
          rintro v32 w33 H34 hle35 S rfl
          have R10 := Sl.mono R10 hle35
          have R6 := Sl.mono R6 hle35
          have hA30 := At.mono hA30 hle35 (by simp)
          refine WL.valw (R.as (v := (str r31)) rfl) ?_
          refine WL.nil ?_
          refine WP.seq ?_
          refine WP.region ?_
          refine WL.valw (R.mv (v := (str r31)) rfl) ?_
          refine WL.valw (R.neqS (a := r31) (b := []) rfl rfl) ?_
          refine WL.nil ?_
          rcases condE hy21 with ⟨hc36, hy21⟩ | ⟨hc36, hy21⟩
          · refine WP.condT rfl hc36 ?_
            refine WP.region ?_
            refine WL.valw (R.mv (v := v9) h11) ?_
            refine WL.valw (R.mv (v := (str r31)) rfl) ?_
            refine W.bslice (α := Str) [(str r31)] ([r31] : List Str) S el38 rfl rfl rfl (by decide) (Go.Eng.encS ⟨rfl, rfl⟩ enc0) ?_
            intro u37 w38 H39 hle40 R41 S
            have R10 := Sl.mono R10 hle40
            have R6 := Sl.mono R6 hle40
            have hA30 := At.mono hA30 hle40 (by simp)
            obtain ⟨l42, hl42, hy21⟩ := bindE hy21
            refine W.app (α := Str) (i := 1) S el38 rfl rfl rfl R10 R41 hl42 ?_
            intro v43 w44 H45 hle46 R47 S
            have R10 := Sl.mono R10 hle46
            have R6 := Sl.mono R6 hle46
            have hA30 := At.mono hA30 hle46 (by simp)
            have R41 := Sl.mono R41 hle46
            refine WL.valw (R.as (v := v43) rfl) ?_
            refine WL.nil ?_
            refine WP.region ?_
            refine WL.valw (R.mv (v := (int i_13)) h14) ?_
            refine WL.valw (R.add rfl rfl) ?_
            refine WL.valw (R.as (v := (int (wr (i_13 + 1)))) rfl) ?_
            refine WL.nil ?_
            obtain rfl := Option.some.inj hy21
            exact ⟨rfl, ⟨H45, v43, rfl, h12, rfl, R47, R6, (S.drop _ (.cons _ (.cons_cons _ .slnil)))⟩⟩
          · refine WP.condF rfl hc36 ?_
            refine WP.skip ?_
            refine WP.region ?_
            refine WL.valw (R.mv (v := (int i_13)) h14) ?_
            refine WL.valw (R.add rfl rfl) ?_
            refine WL.valw (R.as (v := (int (wr (i_13 + 1)))) rfl) ?_
            refine WL.nil ?_
            obtain rfl := Option.some.inj hy21
            exact ⟨rfl, ⟨H34, v9, h11, h12, rfl, R10, R6, S⟩⟩
        · refine WP.condF rfl hc27 ?_
          refine WP.exit ?_
          obtain rfl := Option.some.inj hy21
          obtain rfl := hy22
          exact ⟨H7, v9, h11, R10, S⟩
  · rintro f w ⟨H15, v17, h19, R18, S⟩
    refine WP.seq ?_
    refine WP.region ?_
    refine WL.valw (R.mv (v := v17) h19) ?_
    refine WL.valw (R.as (v := v17) rfl) ?_
    refine WL.nil ?_
    obtain rfl := Option.some.inj h
    refine WP.ret (Out.one rfl S rfl ?_)
    exact R18
set_option maxRecDepth 10000 in
set_option maxHeartbeats 4000000 in
theorem ref01_All_ok {w0 : World} {H0 : Hp} (hw : Holds w0 H0) (p_l : (List GField)) (p_name : Str) {vp_l : Value} (Rp_l : Sl (α := GField) H0 vp_l p_l) {r : (List Str)} (h : ref01_All p_l p_name = some r) :
    Con Tryz.prog 45 [vp_l, (str p_name)] w0 H0 (fun H' v => Sl (α := Str) H' v r) := by
  refine Con.mk (N := 43) Tryz.func45 rfl rfl (by kernel_rfl) rfl ?_
  have S := St.start hw
  refine WP.seq ?_
  refine WP.region ?_
  refine WL.valw (R.as (v := (.slice none 0 0)) rfl) ?_
  refine WL.nil ?_
  refine WP.seq ?_
  refine WP.region ?_
  refine WL.valw (R.as (v := (.slice none 0 0)) rfl) ?_
  refine WL.nil ?_
  refine WP.seq ?_
  refine WP.region ?_
  refine WL.valw (R.mv (v := vp_l) rfl) ?_
  refine WL.valw (R.mv (v := (str p_name)) rfl) ?_
  obtain ⟨r1, hr1, h⟩ := bindE h
  refine W.call S rfl (ref01_Get_ok S.holds p_l p_name Rp_l hr1) ?_
  rintro v2 w3 H4 hle5 S R6
  have Rp_l := Sl.mono Rp_l hle5
  refine WL.valw (R.as (v := v2) rfl) ?_
  refine WL.nil ?_
  refine WP.seq ?_
  refine WP.seq ?_
  refine WP.region ?_
  refine WL.valw (R.as (v := (int 0)) rfl) ?_
  refine WL.nil ?_
  have S := S.addNil 9 1
  obtain ⟨out_16, hr24, h⟩ := bindE h
  refine WP.cut (fun f w => ∃ (H15 : Hp) (v17 : Value), f 5 = v17 ∧ Sl (α := Str) H15 v17 out_16 ∧ St w0 H0 w H15 [.row v17 9 1 out_16.length]) ?_ ?_
  · refine WP.block ?_
    refine WP.loopM (ref01_All_L1 r1) (fun s f w => match s with | (out_8, i_13) => ∃ (H7 : Hp) (v9 : Value), f 5 = v9 ∧ f 6 = v2 ∧ f 7 = (int i_13) ∧ Sl (α := Str) H7 v9 out_8 ∧ Sl (α := Str) H7 v2 r1 ∧ St w0 H0 w H7 [.row v9 9 1 out_8.length]) (([] : List Str), 0) out_16 hr24 ?_ ?_
    · exact ⟨H4, .slice none 0 0, rfl, rfl, rfl, Sl.nil, R6, S⟩
    · intro s f w hI y20 hy21 hy22
      obtain ⟨out_8, i_13⟩ := s
      obtain ⟨H7, v9, h11, h12, h14, R10, R6, S⟩ := hI
      refine WP.seq ?_
      refine WP.seq ?_
      refine WP.region ?_
      refine WL.valw (R.mv (v := (int i_13)) h14) ?_
      refine WL.valw (R.mv (v := v2) h12) ?_
      refine WL.valw (R.lenL (α := Str) (xs := r1) (H := H7) R6 rfl Tryz.underlying38) ?_
      refine WL.valw (R.lss rfl rfl) ?_
      refine WL.nil ?_
      rcases condE hy21 with ⟨hc25, hy21⟩ | ⟨hc25, hy21⟩
      · refine WP.condT rfl hc25 ?_
        refine WP.skip ?_
        refine WP.seq ?_
        refine WP.block ?_
        refine WP.seq ?_
        refine WP.region ?_
        refine WL.valw (R.mv (v := v2) h12) ?_
        refine WL.valw (R.mv (v := (int i_13)) h14) ?_
        obtain ⟨x26, hx26, hy21⟩ := bindE hy21
        refine W.idx (α := Str) R6 rfl rfl el38 hx26 ?_
        rintro a27 _ hA28 rfl
        refine WL.valw (R.loadH (v := (str x26)) S rfl hA28 lay9 rfl) ?_
        obtain ⟨r29, hr29, hy21⟩ := bindE hy21
        refine W.call S rfl (ref01_Split_ok S.holds x26 hr29) ?_
        rintro v30 w31 H32 hle33 S R34
        have R10 := Sl.mono R10 hle33
        have R6 := Sl.mono R6 hle33
        have hA28 := At.mono hA28 hle33 (by simp)
        refine WL.valw (R.as (v := v30) rfl) ?_
        refine WL.nil ?_
        refine WP.seq ?_
        refine WP.region ?_
        refine WL.valw (R.as (v := (int 0)) rfl) ?_
        refine WL.nil ?_
        obtain ⟨out_46, hr56, hy21⟩ := bindE hy21
        refine WP.cut (fun f w => ∃ (H45 : Hp) (v47 : Value), f 5 = v47 ∧ f 6 = v2 ∧ f 7 = (int i_13) ∧ Sl (α := Str) H45 v47 out_46 ∧ Sl (α := Str) H45 v2 r1 ∧ St w0 H0 w H45 [.row v47 9 1 out_46.length]) ?_ ?_
        · refine WP.block ?_
          refine WP.loopM (ref01_All_L0 r29) (fun s f w => match s with | (out_36, k_43) => ∃ (H35 : Hp) (v37 : Value), f 5 = v37 ∧ f 6 = v2 ∧ f 7 = (int i_13) ∧ f 8 = v30 ∧ f 9 = (int k_43) ∧ Sl (α := Str) H35 v37 out_36 ∧ Sl (α := Str) H35 v2 r1 ∧ Sl (α := Str) H35 v30 r29 ∧ St w0 H0 w H35 [.row v37 9 1 out_36.length]) (out_8, 0) out_46 hr56 ?_ ?_
          · exact ⟨H32, v9, h11, h12, h14, rfl, rfl, R10, R6, R34, S⟩
          · intro s f w hI y52 hy53 hy54
            obtain ⟨out_36, k_43⟩ := s
            obtain ⟨H35, v37, h39, h40, h41, h42, h44, R38, R6, R34, S⟩ := hI
            refine WP.seq ?_
            refine WP.seq ?_
            refine WP.region ?_
            refine WL.valw (R.mv (v := (int k_43)) h44) ?_
            refine WL.valw (R.mv (v := v30) h42) ?_
            refine WL.valw (R.lenL (α := Str) (xs := r29) (H := H35) R34 rfl Tryz.underlying38) ?_
            refine WL.valw (R.lss rfl rfl) ?_
            refine WL.valw (R.mv (v := (boo (decide (k_43 < (r29.length : Int))))) rfl) ?_
            refine WL.grp 4 [29, 30, 31] 32 (boo ((decide (k_43 < (r29.length : Int))) && (decide ((out_36.length : Int) < 64)))) ?_ ?_
            · rcases boolE (decide (k_43 < (r29.length : Int))) with hb57 | hb57
              · refine WL.gyes rfl rfl hb57 ?_
                refine WL.valw (R.mv (v := v37) h39) ?_
                refine WL.gyes rfl rfl hb57 ?_
                refine WL.valw (R.lenL (α := Str) (xs := out_36) (H := H35) R38 rfl Tryz.underlying38) ?_
                refine WL.gyes rfl rfl hb57 ?_
                refine WL.valw (R.lss rfl rfl) ?_
                refine WL.valw (R.pickT rfl hb57 rfl) ?_
                exact WL.nil ⟨(andT hb57), (by repeat (first | refine agree_upd rfl ?_ | refine agree_upds' rfl ?_ | exact agree_refl)), rfl⟩
              · refine WL.gno rfl rfl hb57 ?_
                refine WL.gno rfl rfl hb57 ?_
                refine WL.gno rfl rfl hb57 ?_
                refine WL.valw (R.pickF rfl hb57 rfl) ?_
                exact WL.nil ⟨(andF hb57), (by repeat (first | refine agree_upd rfl ?_ | refine agree_upds' rfl ?_ | exact agree_refl)), rfl⟩
            · intro us
              refine WL.nil ?_
              rcases condE hy53 with ⟨hc59, hy53⟩ | ⟨hc59, hy53⟩
              · refine WP.condT rfl hc59 ?_
                refine WP.skip ?_
                refine WP.seq ?_
                refine WP.block ?_
                refine WP.region ?_
                refine WL.valw (R.mv (v := v37) h39) ?_
                refine WL.valw (R.mv (v := v30) h42) ?_
                refine WL.valw (R.mv (v := (int k_43)) h44) ?_
                obtain ⟨x60, hx60, hy53⟩ := bindE hy53
                refine W.idx (α := Str) R34 rfl rfl el38 hx60 ?_
                rintro a61 _ hA62 rfl
                refine WL.valw (R.loadH (v := (str x60)) S rfl hA62 lay9 rfl) ?_
                refine W.bslice (α := Str) [(str x60)] ([x60] : List Str) S el38 rfl rfl rfl (by decide) (Go.Eng.encS ⟨rfl, rfl⟩ enc0) ?_
                intro u63 w64 H65 hle66 R67 S
                have R38 := Sl.mono R38 hle66
                have R6 := Sl.mono R6 hle66
                have R34 := Sl.mono R34 hle66
                have hA62 := At.mono hA62 hle66 (by simp)
                obtain ⟨l68, hl68, hy53⟩ := bindE hy53
                refine W.app (α := Str) (i := 1) S el38 rfl rfl rfl R38 R67 hl68 ?_
                intro v69 w70 H71 hle72 R73 S
                have R38 := Sl.mono R38 hle72
                have R6 := Sl.mono R6 hle72
                have R34 := Sl.mono R34 hle72
                have hA62 := At.mono hA62 hle72 (by simp)
                have R67 := Sl.mono R67 hle72
                refine WL.valw (R.as (v := v69) rfl) ?_
                refine WL.nil ?_
                refine WP.region ?_
                refine WL.valw (R.mv (v := (int k_43)) h44) ?_
                refine WL.valw (R.add rfl rfl) ?_
                refine WL.valw (R.as (v := (int (wr (k_43 + 1)))) rfl) ?_
                refine WL.nil ?_
                obtain rfl := Option.some.inj hy53
                exact ⟨rfl, ⟨H71, v69, rfl, h40, h41, h42, rfl, R73, R6, R34, (S.drop _ (.cons _ (.cons_cons _ .slnil)))⟩⟩
              · refine WP.condF rfl hc59 ?_
                refine WP.exit ?_
                obtain rfl := Option.some.inj hy53
                obtain rfl := hy54
                exact ⟨H35, v37, h39, h40, h41, R38, R6, S⟩
        · rintro f w ⟨H45, v47, h49, h50, h51, R48, R6, S⟩
          refine WP.region ?_
          refine WL.valw (R.mv (v := (int i_13)) h51) ?_
          refine WL.valw (R.add rfl rfl) ?_
          refine WL.valw (R.as (v := (int (wr (i_13 + 1)))) rfl) ?_
          refine WL.nil ?_
          obtain rfl := Option.some.inj hy21
          exact ⟨rfl, ⟨H45, v47, h49, h50, rfl, R48, R6, S⟩⟩
      · refine WP.condF rfl hc25 ?_
        refine WP.exit ?_
        obtain rfl := Option.some.inj hy21
        obtain rfl := hy22
        exact ⟨H7, v9, h11, R10, S⟩
  · rintro f w ⟨H15, v17, h19, R18, S⟩
    refine WP.seq ?_
    refine WP.region ?_
    refine WL.valw (R.mv (v := v17) h19) ?_
    refine WL.valw (R.as (v := v17) rfl) ?_
    refine WL.nil ?_
    obtain rfl := Option.some.inj h
    refine WP.ret (Out.one rfl S rfl ?_)
    exact R18
set_option maxRecDepth 10000 in
set_option maxHeartbeats 4000000 in
theorem ref01_TokenByte_ok {w0 : World} {H0 : Hp} (hw : Holds w0 H0) (p_c : UInt8) {r : Bool} (h : ref01_TokenByte p_c = some r) :
    Con Tryz.prog 70 [(byt p_c)] w0 H0 (fun H' v => v = (boo r)) := by
  refine Con.mk (N := 34) Tryz.func70 rfl rfl (by kernel_rfl) rfl ?_
  have S := St.start hw
  refine WP.seq ?_
  refine WP.region ?_
  refine WL.valw (R.as (v := (boo false)) rfl) ?_
  refine WL.nil ?_
  refine WP.seq ?_
  refine WP.seq ?_
  refine WP.region ?_
  refine WL.valw (R.mv (v := (byt p_c)) rfl) ?_
  refine WL.valw (R.geq8 (a := p_c) (b := 97) rfl rfl) ?_
  refine WL.valw (R.mv (v := (boo (decide (97 ≤ p_c)))) rfl) ?_
  refine WL.grp 3 [7, 8] 9 (boo ((decide (97 ≤ p_c)) && (decide (p_c ≤ 122)))) ?_ ?_
  · rcases boolE (decide (97 ≤ p_c)) with hb1 | hb1
    · refine WL.gyes rfl rfl hb1 ?_
      refine WL.valw (R.mv (v := (byt p_c)) rfl) ?_
      refine WL.gyes rfl rfl hb1 ?_
      refine WL.valw (R.leq8 (a := p_c) (b := 122) rfl rfl) ?_
      refine WL.valw (R.pickT rfl hb1 rfl) ?_
      exact WL.nil ⟨(andT hb1), (by repeat (first | refine agree_upd rfl ?_ | refine agree_upds' rfl ?_ | exact agree_refl)), rfl⟩
    · refine WL.gno rfl rfl hb1 ?_
      refine WL.gno rfl rfl hb1 ?_
      refine WL.valw (R.pickF rfl hb1 rfl) ?_
      exact WL.nil ⟨(andF hb1), (by repeat (first | refine agree_upd rfl ?_ | refine agree_upds' rfl ?_ | exact agree_refl)), rfl⟩
  · intro us
    refine WL.valw (R.mv (v := (boo ((decide (97 ≤ p_c)) && (decide (p_c ≤ 122))))) rfl) ?_
    refine WL.grp 7 [11, 12, 13, 14, 15, 16] 17 (boo (((decide (97 ≤ p_c)) && (decide (p_c ≤ 122))) || ((decide (65 ≤ p_c)) && (decide (p_c ≤ 90))))) ?_ ?_
    · rcases boolE ((decide (97 ≤ p_c)) && (decide (p_c ≤ 122))) with hb3 | hb3
      · refine WL.gno rfl rfl hb3 ?_
        refine WL.gno rfl rfl hb3 ?_
        refine WL.gno rfl rfl hb3 ?_
        refine WL.gund rfl rfl ?_
        refine WL.gund rfl rfl ?_
        refine WL.gno rfl rfl hb3 ?_
        refine WL.valw (R.pickT rfl hb3 rfl) ?_
        exact WL.nil ⟨(orT hb3), (by repeat (first | refine agree_upd rfl ?_ | refine agree_upds' rfl ?_ | exact agree_refl)), rfl⟩
      · refine WL.gyes rfl rfl hb3 ?_
        refine WL.valw (R.mv (v := (byt p_c)) rfl) ?_
        refine WL.gyes rfl rfl hb3 ?_
        refine WL.valw (R.geq8 (a := p_c) (b := 65) rfl rfl) ?_
        refine WL.gyes rfl rfl hb3 ?_
        refine WL.valw (R.mv (v := (boo (decide (65 ≤ p_c)))) rfl) ?_
        refine WL.grp 3 [14, 15] 16 (boo ((decide (65 ≤ p_c)) && (decide (p_c ≤ 90)))) ?_ ?_
        · rcases boolE (decide (65 ≤ p_c)) with hb5 | hb5
          · refine WL.gyes rfl rfl hb5 ?_
            refine WL.valw (R.mv (v := (byt p_c)) rfl) ?_
            refine WL.gyes rfl rfl hb5 ?_
            refine WL.valw (R.leq8 (a := p_c) (b := 90) rfl rfl) ?_
            refine WL.gyes rfl rfl hb3 ?_
            refine WL.valw (R.pickT rfl hb5 rfl) ?_
            exact WL.nil ⟨(andT hb5), (by repeat (first | refine agree_upd rfl ?_ | refine agree_upds' rfl ?_ | exact agree_refl)), rfl⟩
          · refine WL.gno rfl rfl hb5 ?_
            refine WL.gno rfl rfl hb5 ?_
            refine WL.gyes rfl rfl hb3 ?_
            refine WL.valw (R.pickF rfl hb5 rfl) ?_
            exact WL.nil ⟨(andF hb5), (by repeat (first | refine agree_upd rfl ?_ | refine agree_upds' rfl ?_ | exact agree_refl)), rfl⟩
        · intro us
          refine WL.valw (R.pickF rfl hb3 rfl) ?_
          exact WL.nil ⟨(orF hb3), (by repeat (first | refine agree_upd rfl ?_ | refine agree_upds' rfl ?_ | exact agree_refl)), rfl⟩
    · intro us
      refine WL.valw (R.mv (v := (boo (((decide (97 ≤ p_c)) && (decide (p_c ≤ 122))) || ((decide (65 ≤ p_c)) && (decide (p_c ≤ 90)))))) rfl) ?_
      refine WL.grp 7 [19, 20, 21, 22, 23, 24] 25 (boo ((((decide (97 ≤ p_c)) && (decide (p_c ≤ 122))) || ((decide (65 ≤ p_c)) && (decide (p_c ≤ 90)))) || ((decide (48 ≤ p_c)) && (decide (p_c ≤ 57))))) ?_ ?_
      · rcases boolE (((decide (97 ≤ p_c)) && (decide (p_c ≤ 122))) || ((decide (65 ≤ p_c)) && (decide (p_c ≤ 90)))) with hb7 | hb7
        · refine WL.gno rfl rfl hb7 ?_
          refine WL.gno rfl rfl hb7 ?_
          refine WL.gno rfl rfl hb7 ?_
          refine WL.gund rfl rfl ?_
          refine WL.gund rfl rfl ?_
          refine WL.gno rfl rfl hb7 ?_
          refine WL.valw (R.pickT rfl hb7 rfl) ?_
          exact WL.nil ⟨(orT hb7), (by repeat (first | refine agree_upd rfl ?_ | refine agree_upds' rfl ?_ | exact agree_refl)), rfl⟩
        · refine WL.gyes rfl rfl hb7 ?_
          refine WL.valw (R.mv (v := (byt p_c)) rfl) ?_
          refine WL.gyes rfl rfl hb7 ?_
          refine WL.valw (R.geq8 (a := p_c) (b := 48) rfl rfl) ?_
          refine WL.gyes rfl rfl hb7 ?_
          refine WL.valw (R.mv (v := (boo (decide (48 ≤ p_c)))) rfl) ?_
          refine WL.grp 3 [22, 23] 24 (boo ((decide (48 ≤ p_c)) && (decide (p_c ≤ 57)))) ?_ ?_
          · rcases boolE (decide (48 ≤ p_c)) with hb9 | hb9
            · refine WL.gyes rfl rfl hb9 ?_
              refine WL.valw (R.mv (v := (byt p_c)) rfl) ?_
              refine WL.gyes rfl rfl hb9 ?_
              refine WL.valw (R.leq8 (a := p_c) (b := 57) rfl rfl) ?_
              refine WL.gyes rfl rfl hb7 ?_
              refine WL.valw (R.pickT rfl hb9 rfl) ?_
              exact WL.nil ⟨(andT hb9), (by repeat (first | refine agree_upd rfl ?_ | refine agree_upds' rfl ?_ | exact agree_refl)), rfl⟩
            · refine WL.gno rfl rfl hb9 ?_
              refine WL.gno rfl rfl hb9 ?_
              refine WL.gyes rfl rfl hb7 ?_
              refine WL.valw (R.pickF rfl hb9 rfl) ?_
              exact WL.nil ⟨(andF hb9), (by repeat (first | refine agree_upd rfl ?_ | refine agree_upds' rfl ?_ | exact agree_refl)), rfl⟩
          · intro us
            refine WL.valw (R.pickF rfl hb7 rfl) ?_
            exact WL.nil ⟨(orF hb7), (by repeat (first | refine agree_upd rfl ?_ | refine agree_upds' rfl ?_ | exact agree_refl)), rfl⟩
      · intro us
        refine WL.nil ?_
        rcases condE h with ⟨hc11, h⟩ | ⟨hc11, h⟩
        · refine WP.condT rfl hc11 ?_
          refine WP.seq ?_
          refine WP.region ?_
          refine WL.valw (R.as (v := (boo true)) rfl) ?_
          refine WL.nil ?_
          obtain rfl := Option.some.inj h
          refine WP.ret (Out.one rfl S rfl ?_)
          exact rfl
        · refine WP.condF rfl hc11 ?_
          refine WP.skip ?_
          refine WP.seq ?_
          refine WP.seq ?_
          refine WP.region ?_
          refine WL.valw (R.as (v := (int 0)) rfl) ?_
          refine WL.nil ?_
          obtain ⟨r20, hr21, h⟩ := bindE h
          refine WP.cut (fun f w => match r20 with | .inl _ => ∃ (H16 : Hp), St w0 H0 w H16 [] | .inr _ => False) ?_ ?_
          · refine WP.block ?_
            refine WP.loopM (ref01_TokenByte_L0 p_c) (fun s f w => match s with | i_14 => ∃ (H12 : Hp), f 0 = (byt p_c) ∧ f 3 = (int i_14) ∧ St w0 H0 w H12 []) 0 r20 hr21 ?_ ?_
            · exact ⟨H0, rfl, rfl, S⟩
            · intro i_14 f w hI y17 hy18 hy19
              obtain ⟨H12, h13, h15, S⟩ := hI
              refine WP.seq ?_
              refine WP.seq ?_
              refine WP.region ?_
              refine WL.valw (R.mv (v := (int i_14)) h15) ?_
              refine WL.valw (R.lss rfl rfl) ?_
              refine WL.nil ?_
              rcases condE hy18 with ⟨hc22, hy18⟩ | ⟨hc22, hy18⟩
              · refine WP.condT rfl hc22 ?_
                refine WP.skip ?_
                refine WP.seq ?_
                refine WP.block ?_
                refine WP.seq ?_
                refine WP.region ?_
                refine WL.valw (R.mv (v := (int i_14)) h15) ?_
                obtain ⟨c23, hc23, hy18⟩ := bindE hy18
                refine WL.valw (R.idxS rfl rfl Tryz.underlying9 hc23) ?_
                refine WL.valw (R.mv (v := (byt p_c)) h13) ?_
                refine WL.valw (R.eql8 (a := c23) (b := p_c) rfl rfl) ?_
                refine WL.nil ?_
                rcases condE hy18 with ⟨hc24, hy18⟩ | ⟨hc24, hy18⟩
                · refine WP.condT rfl hc24 ?_
                  refine WP.seq ?_
                  refine WP.region ?_
                  refine WL.valw (R.as (v := (boo true)) rfl) ?_
                  refine WL.nil ?_
                  obtain rfl := Option.some.inj hy18
                  obtain rfl := hy19
                  obtain rfl := Option.some.inj h
                  refine WP.ret (Out.one rfl S rfl ?_)
                  exact rfl
                · refine WP.condF rfl hc24 ?_
                  refine WP.skip ?_
                  refine WP.region ?_
                  refine WL.valw (R.mv (v := (int i_14)) h15) ?_
                  refine WL.valw (R.add rfl rfl) ?_
                  refine WL.valw (R.as (v := (int (wr (i_14 + 1)))) rfl) ?_
                  refine WL.nil ?_
                  obtain rfl := Option.some.inj hy18
                  exact ⟨rfl, ⟨H12, h13, rfl, S⟩⟩
              · refine WP.condF rfl hc22 ?_
                refine WP.exit ?_
                obtain rfl := Option.some.inj hy18
                obtain rfl := hy19
                exact ⟨H12, S⟩
          · intro f w hM
            rcases r20 with _ | e
            · obtain ⟨H16, S⟩ := hM
              refine WP.seq ?_
              refine WP.region ?_
              refine WL.valw (R.as (v := (boo false)) rfl) ?_
              refine WL.nil ?_
              obtain rfl := Option.some.inj h
              refine WP.ret (Out.one rfl S rfl ?_)
              exact rfl
            · exact hM.elim
end Go.Proofs
