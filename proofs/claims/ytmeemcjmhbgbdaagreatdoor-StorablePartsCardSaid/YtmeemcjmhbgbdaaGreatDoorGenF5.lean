/- A part of the proof of laws of the seat: written by program over the translation. -/
import Derived.Test.YtmeemcjmhbgbdaaGreatDoorGenF4
namespace Go.Proofs
open Go.Eng Go.Eng.Pure
set_option linter.unusedVariables false
set_option maxRecDepth 10000 in
set_option maxHeartbeats 4000000 in
theorem storable_Storable_ok {w0 : World} {H0 : Hp} (hw : Holds w0 H0) (p_ppend : GRequest) (p_x1 : GResponse) {vp_ppend3 : Value} {vp_x13 : Value} (Rp_ppend3 : Sl (α := GField) H0 vp_ppend3 p_ppend.fFields) (Rp_x13 : Sl (α := GField) H0 vp_x13 p_x1.fFields) {r : Bool} (h : storable_Storable p_ppend p_x1 = some r) :
    Con Tryz.prog 8 [(agg [(str p_ppend.fMethod), (str p_ppend.fTarget), (int p_ppend.fMinor), vp_ppend3, (str p_ppend.fBody)]), (agg [(int p_x1.fMinor), (int p_x1.fStatus), (str p_x1.fReason), vp_x13, (str p_x1.fBody)])] w0 H0 (fun H' v => v = (boo r)) := by
  refine Con.mk (N := 69) Tryz.func8 rfl rfl (by kernel_rfl) rfl ?_
  have S := St.start hw
  refine WP.seq ?_
  refine WP.region ?_
  refine W.box [(str p_ppend.fMethod), (str p_ppend.fTarget), (int p_ppend.fMinor), vp_ppend3, (str p_ppend.fBody)] S rfl rfl ?_
  intro b1 w2 S
  refine W.box [(int p_x1.fMinor), (int p_x1.fStatus), (str p_x1.fReason), vp_x13, (str p_x1.fBody)] S rfl rfl ?_
  intro b3 w4 S
  refine WL.valw (R.as (v := (boo false)) rfl) ?_
  refine WL.nil ?_
  refine WP.seq ?_
  refine WP.seq ?_
  refine WP.region ?_
  refine WL.valw (R.fieldB rfl fld24_0) ?_
  refine WL.valw (R.loadB (i := 1) (v := (str p_ppend.fMethod)) S rfl rfl lay9 rfl) ?_
  refine WL.valw (R.neqS (a := p_ppend.fMethod) (b := [71, 69, 84]) rfl rfl) ?_
  refine WL.valw (R.mv (v := (boo (p_ppend.fMethod != [71, 69, 84]))) rfl) ?_
  refine WL.grp 4 [12, 13, 14] 15 (boo ((p_ppend.fMethod != [71, 69, 84]) || (p_x1.fStatus != 200))) ?_ ?_
  · rcases boolE (p_ppend.fMethod != [71, 69, 84]) with hb5 | hb5
    · refine WL.gno rfl rfl hb5 ?_
      refine WL.gno rfl rfl hb5 ?_
      refine WL.gno rfl rfl hb5 ?_
      refine WL.valw (R.pickT rfl hb5 rfl) ?_
      exact WL.nil ⟨(orT hb5), (by repeat (first | refine agree_upd rfl ?_ | refine agree_upds' rfl ?_ | exact agree_refl)), rfl⟩
    · refine WL.gyes rfl rfl hb5 ?_
      refine WL.valw (R.fieldB rfl fld26_1) ?_
      refine WL.gyes rfl rfl hb5 ?_
      refine WL.valw (R.loadB (i := 0) (v := (int p_x1.fStatus)) S rfl rfl lay3 rfl) ?_
      refine WL.gyes rfl rfl hb5 ?_
      refine WL.valw (R.neq rfl rfl) ?_
      refine WL.valw (R.pickF rfl hb5 rfl) ?_
      exact WL.nil ⟨(orF hb5), (by repeat (first | refine agree_upd rfl ?_ | refine agree_upds' rfl ?_ | exact agree_refl)), rfl⟩
  · intro us
    refine WL.nil ?_
    rcases condE h with ⟨hc7, h⟩ | ⟨hc7, h⟩
    · refine WP.condT rfl hc7 ?_
      refine WP.seq ?_
      refine WP.region ?_
      refine WL.valw (R.as (v := (boo false)) rfl) ?_
      refine WL.nil ?_
      obtain rfl := Option.some.inj h
      refine WP.ret (Out.one rfl S rfl ?_)
      exact rfl
    · refine WP.condF rfl hc7 ?_
      refine WP.skip ?_
      refine WP.seq ?_
      refine WP.region ?_
      refine WL.valw (R.fieldB rfl fld26_3) ?_
      refine WL.valw (R.loadB (i := 0) (v := vp_x13) S rfl rfl lay22 rfl) ?_
      obtain ⟨r8, hr8, h⟩ := bindE h
      refine W.call S rfl (cachecontrol_Response_ok S.holds p_x1.fFields Rp_x13 hr8) ?_
      rintro v9 w10 H11 hle12 S rfl
      have Rp_ppend3 := Sl.mono Rp_ppend3 hle12
      have Rp_x13 := Sl.mono Rp_x13 hle12
      refine W.alloc [(boo false), (boo false), (boo false), (boo false), (boo false), (boo false), (boo false), (int 0), (int 0), (int 0), (int 0)] S zer36 ?_
      intro b13 w14 S
      refine W.store (i := 0) [(boo r8.fNoStore), (boo r8.fNoCache), (boo r8.fMustRevalidate), (boo r8.fProxyRevalidate), (boo r8.fPrivate), (boo r8.fPublic), (boo r8.fOnlyIfCached), (int r8.fMaxAge), (int r8.fSMaxAge), (int r8.fMinFresh), (int r8.fMaxStale)] S rfl rfl rfl lay36 rfl rfl (Nat.le_of_ble_eq_true rfl) rfl ?_
      intro w15 S
      refine WL.nil ?_
      refine WP.seq ?_
      refine WP.seq ?_
      refine WP.region ?_
      refine WL.valw (R.fieldB rfl fld36_0) ?_
      refine WL.valw (R.loadB (i := 0) (v := (boo r8.fNoStore)) S rfl rfl lay4 rfl) ?_
      refine WL.valw (R.mv (v := (boo r8.fNoStore)) rfl) ?_
      refine WL.grp 3 [22, 23] 24 (boo (r8.fNoStore || r8.fPrivate)) ?_ ?_
      · rcases boolE r8.fNoStore with hb16 | hb16
        · refine WL.gno rfl rfl hb16 ?_
          refine WL.gno rfl rfl hb16 ?_
          refine WL.valw (R.pickT rfl hb16 rfl) ?_
          exact WL.nil ⟨(orT hb16), (by repeat (first | refine agree_upd rfl ?_ | refine agree_upds' rfl ?_ | exact agree_refl)), rfl⟩
        · refine WL.gyes rfl rfl hb16 ?_
          refine WL.valw (R.fieldB rfl fld36_4) ?_
          refine WL.gyes rfl rfl hb16 ?_
          refine WL.valw (R.loadB (i := 0) (v := (boo r8.fPrivate)) S rfl rfl lay4 rfl) ?_
          refine WL.valw (R.pickF rfl hb16 rfl) ?_
          exact WL.nil ⟨(orF hb16), (by repeat (first | refine agree_upd rfl ?_ | refine agree_upds' rfl ?_ | exact agree_refl)), rfl⟩
      · intro us
        refine WL.valw (R.mv (v := (boo (r8.fNoStore || r8.fPrivate))) rfl) ?_
        obtain ⟨b25, hg19, h⟩ := bindE h
        refine WL.grpw 5 [26, 27, 28, 29] 30 (boo b25) (fun w => ∃ H' : Hp, H11.le H' ∧ St w0 H0 w H' [.box b13 36 [(boo r8.fNoStore), (boo r8.fNoCache), (boo r8.fMustRevalidate), (boo r8.fProxyRevalidate), (boo r8.fPrivate), (boo r8.fPublic), (boo r8.fOnlyIfCached), (int r8.fMaxAge), (int r8.fSMaxAge), (int r8.fMinFresh), (int r8.fMaxStale)], .box b3 26 [(int p_x1.fMinor), (int p_x1.fStatus), (str p_x1.fReason), vp_x13, (str p_x1.fBody)], .box b1 24 [(str p_ppend.fMethod), (str p_ppend.fTarget), (int p_ppend.fMinor), vp_ppend3, (str p_ppend.fBody)]]) ?_ ?_
        · rcases boolE (r8.fNoStore || r8.fPrivate) with hb18 | hb18
          · replace hg19 := condT hg19 hb18
            refine WL.gno rfl rfl hb18 ?_
            refine WL.gno rfl rfl hb18 ?_
            refine WL.gno rfl rfl hb18 ?_
            refine WL.gno rfl rfl hb18 ?_
            refine WL.valw (R.pickT rfl hb18 rfl) ?_
            exact WL.nil ⟨(congrArg boo (Option.some.inj hg19)), (by repeat (first | refine agree_upd rfl ?_ | refine agree_upds' rfl ?_ | exact agree_refl)), ⟨H11, (Hp.le.refl _), S⟩⟩
          · replace hg19 := condF hg19 hb18
            refine WL.gyes rfl rfl hb18 ?_
            refine WL.valw (R.fieldB rfl fld24_3) ?_
            refine WL.gyes rfl rfl hb18 ?_
            refine WL.valw (R.loadB (i := 2) (v := vp_ppend3) S rfl rfl lay22 rfl) ?_
            refine WL.gyes rfl rfl hb18 ?_
            obtain ⟨r20, hr20, hg19⟩ := bindE hg19
            refine W.call S rfl (cachecontrol_Request_ok S.holds p_ppend.fFields Rp_ppend3 hr20) ?_
            rintro v21 w22 H23 hle24 S rfl
            have Rp_ppend3 := Sl.mono Rp_ppend3 hle24
            have Rp_x13 := Sl.mono Rp_x13 hle24
            refine WL.gyes rfl rfl hb18 ?_
            refine WL.valw (v := (boo r20.fNoStore)) (R.fieldV (cs := [(boo r20.fNoStore), (boo r20.fNoCache), (boo r20.fMustRevalidate), (boo r20.fProxyRevalidate), (boo r20.fPrivate), (boo r20.fPublic), (boo r20.fOnlyIfCached), (int r20.fMaxAge), (int r20.fSMaxAge), (int r20.fMinFresh), (int r20.fMaxStale)]) rfl fty36_0 lay4 rfl) ?_
            refine WL.valw (R.pickF rfl hb18 rfl) ?_
            exact WL.nil ⟨(congrArg boo (Option.some.inj hg19)), (by repeat (first | refine agree_upd rfl ?_ | refine agree_upds' rfl ?_ | exact agree_refl)), ⟨H23, hle24, S⟩⟩
        · intro us w27 ⟨H26, hle28, S⟩
          have Rp_ppend3 := Sl.mono Rp_ppend3 hle28
          have Rp_x13 := Sl.mono Rp_x13 hle28
          refine WL.nil ?_
          rcases condE h with ⟨hc29, h⟩ | ⟨hc29, h⟩
          · refine WP.condT rfl hc29 ?_
            refine WP.seq ?_
            refine WP.region ?_
            refine WL.valw (R.as (v := (boo false)) rfl) ?_
            refine WL.nil ?_
            obtain rfl := Option.some.inj h
            refine WP.ret (Out.one rfl S rfl ?_)
            exact rfl
          · refine WP.condF rfl hc29 ?_
            refine WP.skip ?_
            refine WP.seq ?_
            refine WP.seq ?_
            refine WP.region ?_
            refine WL.valw (R.fieldB rfl fld26_3) ?_
            refine WL.valw (R.loadB (i := 1) (v := vp_x13) S rfl rfl lay22 rfl) ?_
            obtain ⟨r30, hr30, h⟩ := bindE h
            refine W.call S rfl (vary_Names_ok S.holds p_x1.fFields Rp_x13 hr30) ?_
            rintro v31 w32 H33 hle34 S ⟨u35, rfl, R36⟩
            have Rp_ppend3 := Sl.mono Rp_ppend3 hle34
            have Rp_x13 := Sl.mono Rp_x13 hle34
            refine WL.valw (R.mv (v := (.tuple ⟨[u35, (boo r30.2)]⟩)) rfl) ?_
            refine WL.valw (R.ext rfl rfl) ?_
            refine WL.valw (R.ext rfl rfl) ?_
            refine WL.valw (R.as (v := u35) rfl) ?_
            refine WL.valw (R.as (v := (boo r30.2)) rfl) ?_
            refine WL.nil ?_
            refine WP.seq ?_
            refine WP.region ?_
            refine WL.valw (R.mv (v := (boo r30.2)) rfl) ?_
            refine WL.valw (R.not rfl) ?_
            refine WL.nil ?_
            rcases condE h with ⟨hc37, h⟩ | ⟨hc37, h⟩
            · refine WP.condT rfl hc37 ?_
              refine WP.seq ?_
              refine WP.region ?_
              refine WL.valw (R.as (v := (boo false)) rfl) ?_
              refine WL.nil ?_
              obtain rfl := Option.some.inj h
              refine WP.ret (Out.one rfl S rfl ?_)
              exact rfl
            · refine WP.condF rfl hc37 ?_
              refine WP.skip ?_
              refine WP.seq ?_
              refine WP.seq ?_
              refine WP.region ?_
              refine WL.valw (R.fieldB rfl fld24_3) ?_
              refine WL.valw (R.loadB (i := 2) (v := vp_ppend3) S rfl rfl lay22 rfl) ?_
              obtain ⟨r38, hr38, h⟩ := bindE h
              refine W.call S rfl (fieldline_Has_ok S.holds p_ppend.fFields [82, 97, 110, 103, 101] Rp_ppend3 hr38) ?_
              rintro v39 w40 H41 hle42 S rfl
              have Rp_ppend3 := Sl.mono Rp_ppend3 hle42
              have Rp_x13 := Sl.mono Rp_x13 hle42
              have R36 := Sl.mono R36 hle42
              refine WL.nil ?_
              rcases condE h with ⟨hc43, h⟩ | ⟨hc43, h⟩
              · refine WP.condT rfl hc43 ?_
                refine WP.seq ?_
                refine WP.region ?_
                refine WL.valw (R.as (v := (boo false)) rfl) ?_
                refine WL.nil ?_
                obtain rfl := Option.some.inj h
                refine WP.ret (Out.one rfl S rfl ?_)
                exact rfl
              · refine WP.condF rfl hc43 ?_
                refine WP.skip ?_
                refine WP.seq ?_
                refine WP.seq ?_
                refine WP.region ?_
                refine WL.valw (R.fieldB rfl fld24_3) ?_
                refine WL.valw (R.loadB (i := 2) (v := vp_ppend3) S rfl rfl lay22 rfl) ?_
                obtain ⟨r44, hr44, h⟩ := bindE h
                refine W.call S rfl (fieldline_Has_ok S.holds p_ppend.fFields [65, 117, 116, 104, 111, 114, 105, 122, 97, 116, 105, 111, 110] Rp_ppend3 hr44) ?_
                rintro v45 w46 H47 hle48 S rfl
                have Rp_ppend3 := Sl.mono Rp_ppend3 hle48
                have Rp_x13 := Sl.mono Rp_x13 hle48
                have R36 := Sl.mono R36 hle48
                refine WL.valw (R.mv (v := (boo r44)) rfl) ?_
                refine WL.grp 4 [46, 47, 48] 49 (boo (r44 && (!r8.fMustRevalidate))) ?_ ?_
                · rcases boolE r44 with hb49 | hb49
                  · refine WL.gyes rfl rfl hb49 ?_
                    refine WL.valw (R.fieldB rfl fld36_2) ?_
                    refine WL.gyes rfl rfl hb49 ?_
                    refine WL.valw (R.loadB (i := 0) (v := (boo r8.fMustRevalidate)) S rfl rfl lay4 rfl) ?_
                    refine WL.gyes rfl rfl hb49 ?_
                    refine WL.valw (R.not rfl) ?_
                    refine WL.valw (R.pickT rfl hb49 rfl) ?_
                    exact WL.nil ⟨(andT hb49), (by repeat (first | refine agree_upd rfl ?_ | refine agree_upds' rfl ?_ | exact agree_refl)), rfl⟩
                  · refine WL.gno rfl rfl hb49 ?_
                    refine WL.gno rfl rfl hb49 ?_
                    refine WL.gno rfl rfl hb49 ?_
                    refine WL.valw (R.pickF rfl hb49 rfl) ?_
                    exact WL.nil ⟨(andF hb49), (by repeat (first | refine agree_upd rfl ?_ | refine agree_upds' rfl ?_ | exact agree_refl)), rfl⟩
                · intro us
                  refine WL.valw (R.mv (v := (boo (r44 && (!r8.fMustRevalidate)))) rfl) ?_
                  refine WL.grp 4 [51, 52, 53] 54 (boo ((r44 && (!r8.fMustRevalidate)) && (!r8.fPublic))) ?_ ?_
                  · rcases boolE (r44 && (!r8.fMustRevalidate)) with hb51 | hb51
                    · refine WL.gyes rfl rfl hb51 ?_
                      refine WL.valw (R.fieldB rfl fld36_5) ?_
                      refine WL.gyes rfl rfl hb51 ?_
                      refine WL.valw (R.loadB (i := 0) (v := (boo r8.fPublic)) S rfl rfl lay4 rfl) ?_
                      refine WL.gyes rfl rfl hb51 ?_
                      refine WL.valw (R.not rfl) ?_
                      refine WL.valw (R.pickT rfl hb51 rfl) ?_
                      exact WL.nil ⟨(andT hb51), (by repeat (first | refine agree_upd rfl ?_ | refine agree_upds' rfl ?_ | exact agree_refl)), rfl⟩
                    · refine WL.gno rfl rfl hb51 ?_
                      refine WL.gno rfl rfl hb51 ?_
                      refine WL.gno rfl rfl hb51 ?_
                      refine WL.valw (R.pickF rfl hb51 rfl) ?_
                      exact WL.nil ⟨(andF hb51), (by repeat (first | refine agree_upd rfl ?_ | refine agree_upds' rfl ?_ | exact agree_refl)), rfl⟩
                  · intro us
                    refine WL.valw (R.mv (v := (boo ((r44 && (!r8.fMustRevalidate)) && (!r8.fPublic)))) rfl) ?_
                    refine WL.grp 4 [56, 57, 58] 59 (boo (((r44 && (!r8.fMustRevalidate)) && (!r8.fPublic)) && (r8.fSMaxAge == (-1)))) ?_ ?_
                    · rcases boolE ((r44 && (!r8.fMustRevalidate)) && (!r8.fPublic)) with hb53 | hb53
                      · refine WL.gyes rfl rfl hb53 ?_
                        refine WL.valw (R.fieldB rfl fld36_8) ?_
                        refine WL.gyes rfl rfl hb53 ?_
                        refine WL.valw (R.loadB (i := 0) (v := (int r8.fSMaxAge)) S rfl rfl lay3 rfl) ?_
                        refine WL.gyes rfl rfl hb53 ?_
                        refine WL.valw (R.eql rfl rfl) ?_
                        refine WL.valw (R.pickT rfl hb53 rfl) ?_
                        exact WL.nil ⟨(andT hb53), (by repeat (first | refine agree_upd rfl ?_ | refine agree_upds' rfl ?_ | exact agree_refl)), rfl⟩
                      · refine WL.gno rfl rfl hb53 ?_
                        refine WL.gno rfl rfl hb53 ?_
                        refine WL.gno rfl rfl hb53 ?_
                        refine WL.valw (R.pickF rfl hb53 rfl) ?_
                        exact WL.nil ⟨(andF hb53), (by repeat (first | refine agree_upd rfl ?_ | refine agree_upds' rfl ?_ | exact agree_refl)), rfl⟩
                    · intro us
                      refine WL.nil ?_
                      rcases condE h with ⟨hc55, h⟩ | ⟨hc55, h⟩
                      · refine WP.condT rfl hc55 ?_
                        refine WP.seq ?_
                        refine WP.region ?_
                        refine WL.valw (R.as (v := (boo false)) rfl) ?_
                        refine WL.nil ?_
                        obtain rfl := Option.some.inj h
                        refine WP.ret (Out.one rfl S rfl ?_)
                        exact rfl
                      · refine WP.condF rfl hc55 ?_
                        refine WP.skip ?_
                        refine WP.seq ?_
                        refine WP.region ?_
                        refine WL.valw (R.fieldB rfl fld26_3) ?_
                        refine WL.valw (R.loadB (i := 1) (v := vp_x13) S rfl rfl lay22 rfl) ?_
                        obtain ⟨r56, hr56, h⟩ := bindE h
                        refine W.call S rfl (freshness_Lifetime_ok S.holds p_x1.fFields Rp_x13 hr56) ?_
                        rintro v57 w58 H59 hle60 S rfl
                        have Rp_ppend3 := Sl.mono Rp_ppend3 hle60
                        have Rp_x13 := Sl.mono Rp_x13 hle60
                        have R36 := Sl.mono R36 hle60
                        refine WL.valw (R.gtr rfl rfl) ?_
                        refine WL.valw (R.mv (v := (boo (decide (0 < r56)))) rfl) ?_
                        obtain ⟨b68, hg62, h⟩ := bindE h
                        refine WL.grpw 4 [65, 66, 67] 68 (boo b68) (fun w => ∃ H' : Hp, H59.le H' ∧ St w0 H0 w H' [.box b13 36 [(boo r8.fNoStore), (boo r8.fNoCache), (boo r8.fMustRevalidate), (boo r8.fProxyRevalidate), (boo r8.fPrivate), (boo r8.fPublic), (boo r8.fOnlyIfCached), (int r8.fMaxAge), (int r8.fSMaxAge), (int r8.fMinFresh), (int r8.fMaxStale)], .box b3 26 [(int p_x1.fMinor), (int p_x1.fStatus), (str p_x1.fReason), vp_x13, (str p_x1.fBody)], .box b1 24 [(str p_ppend.fMethod), (str p_ppend.fTarget), (int p_ppend.fMinor), vp_ppend3, (str p_ppend.fBody)]]) ?_ ?_
                        · rcases boolE (decide (0 < r56)) with hb61 | hb61
                          · replace hg62 := condT hg62 hb61
                            refine WL.gno rfl rfl hb61 ?_
                            refine WL.gno rfl rfl hb61 ?_
                            refine WL.gno rfl rfl hb61 ?_
                            refine WL.valw (R.pickT rfl hb61 rfl) ?_
                            exact WL.nil ⟨(congrArg boo (Option.some.inj hg62)), (by repeat (first | refine agree_upd rfl ?_ | refine agree_upds' rfl ?_ | exact agree_refl)), ⟨H59, (Hp.le.refl _), S⟩⟩
                          · replace hg62 := condF hg62 hb61
                            refine WL.gyes rfl rfl hb61 ?_
                            refine WL.valw (R.fieldB rfl fld26_3) ?_
                            refine WL.gyes rfl rfl hb61 ?_
                            refine WL.valw (R.loadB (i := 1) (v := vp_x13) S rfl rfl lay22 rfl) ?_
                            refine WL.gyes rfl rfl hb61 ?_
                            obtain ⟨r63, hr63, hg62⟩ := bindE hg62
                            refine W.call S rfl (storable_Validator_ok S.holds p_x1.fFields Rp_x13 hr63) ?_
                            rintro v64 w65 H66 hle67 S rfl
                            have Rp_ppend3 := Sl.mono Rp_ppend3 hle67
                            have Rp_x13 := Sl.mono Rp_x13 hle67
                            have R36 := Sl.mono R36 hle67
                            refine WL.valw (R.pickF rfl hb61 rfl) ?_
                            exact WL.nil ⟨(congrArg boo (Option.some.inj hg62)), (by repeat (first | refine agree_upd rfl ?_ | refine agree_upds' rfl ?_ | exact agree_refl)), ⟨H66, hle67, S⟩⟩
                        · intro us w70 ⟨H69, hle71, S⟩
                          have Rp_ppend3 := Sl.mono Rp_ppend3 hle71
                          have Rp_x13 := Sl.mono Rp_x13 hle71
                          have R36 := Sl.mono R36 hle71
                          refine WL.valw (R.as (v := (boo b68)) rfl) ?_
                          refine WL.nil ?_
                          obtain rfl := Option.some.inj h
                          refine WP.ret (Out.one rfl S rfl ?_)
                          exact rfl
set_option maxRecDepth 10000 in
set_option maxHeartbeats 4000000 in
theorem ref01_Lower_ok {w0 : World} {H0 : Hp} (hw : Holds w0 H0) (p_s : Str) {r : Str} (h : ref01_Lower p_s = some r) :
    Con Tryz.prog 50 [(str p_s)] w0 H0 (fun H' v => v = (str r)) := by
  refine Con.mk (N := 33) Tryz.func50 rfl rfl (by kernel_rfl) rfl ?_
  have S := St.start hw
  refine WP.seq ?_
  refine WP.region ?_
  refine WL.valw (R.as (v := (str [])) rfl) ?_
  refine WL.nil ?_
  refine WP.seq ?_
  refine WP.region ?_
  refine WL.valw (R.mv (v := (str p_s)) rfl) ?_
  refine W.bytes (s := p_s) S rfl Tryz.underlying9 Tryz.underlying86 Tryz.underlying5 ?_
  intro b1 c2 w3 hc2 S
  refine WL.valw (R.as (v := (.slice (some ⟨b1, 0, none⟩) p_s.length c2)) rfl) ?_
  refine WL.nil ?_
  refine WP.seq ?_
  refine WP.seq ?_
  refine WP.region ?_
  refine WL.valw (R.as (v := (int 0)) rfl) ?_
  refine WL.nil ?_
  obtain ⟨m12, hr18, h⟩ := bindE h
  refine WP.cut (fun f w => ∃ (H10 : Hp), f 3 = (.slice (some ⟨b1, 0, none⟩) p_s.length c2) ∧ m12.length = p_s.length ∧ St w0 H0 w H10 [.box b1 5 (m12.map byt)]) ?_ ?_
  · refine WP.block ?_
    refine WP.loopM (ref01_Lower_L0 p_s) (fun s f w => match s with | (i_6, m8) => ∃ (H4 : Hp), f 3 = (.slice (some ⟨b1, 0, none⟩) p_s.length c2) ∧ f 4 = (int i_6) ∧ m8.length = p_s.length ∧ St w0 H0 w H4 [.box b1 5 (m8.map byt)]) (0, p_s) m12 hr18 ?_ ?_
    · exact ⟨H0, rfl, rfl, rfl, S⟩
    · intro s f w hI y14 hy15 hy16
      obtain ⟨i_6, m8⟩ := s
      obtain ⟨H4, h5, h7, hL9, S⟩ := hI
      refine WP.seq ?_
      refine WP.seq ?_
      refine WP.region ?_
      refine WL.valw (R.mv (v := (int i_6)) h7) ?_
      refine WL.valw (R.mv (v := (.slice (some ⟨b1, 0, none⟩) p_s.length c2)) h5) ?_
      refine WL.valw (R.lenV rfl Tryz.underlying86) ?_
      refine WL.valw (R.lss rfl rfl) ?_
      refine WL.nil ?_
      rcases condE hy15 with ⟨hc19, hy15⟩ | ⟨hc19, hy15⟩
      · refine WP.condT rfl hc19 ?_
        refine WP.skip ?_
        refine WP.seq ?_
        refine WP.block ?_
        refine WP.seq ?_
        refine WP.region ?_
        refine WL.valw (R.mv (v := (.slice (some ⟨b1, 0, none⟩) p_s.length c2)) h5) ?_
        refine WL.valw (R.mv (v := (int i_6)) h7) ?_
        obtain ⟨c20, hc20, hy15⟩ := bindE hy15
        have hq21 := (map_byt_get hc20).2
        refine WL.valw (R.idxB rfl rfl el86 (by have := (map_byt_get hc20).2; have hl : m8.length = p_s.length := hL9; omega)) ?_
        obtain ⟨c22, hc22, hy15⟩ := bindE hy15
        refine WL.valw (R.loadB (i := 0) S rfl rfl lay5 (map_byt_get hc22).1) ?_
        refine WL.valw (R.geq8 (a := c22) (b := 65) rfl rfl) ?_
        refine WL.valw (R.mv (v := (boo (decide (65 ≤ c22)))) rfl) ?_
        obtain ⟨b28, hg24, hy15⟩ := bindE hy15
        refine WL.grp 6 [19, 20, 21, 22, 23] 24 (boo b28) ?_ ?_
        · rcases boolE (decide (65 ≤ c22)) with hb23 | hb23
          · replace hg24 := condT hg24 hb23
            refine WL.gyes rfl rfl hb23 ?_
            refine WL.valw (R.mv (v := (.slice (some ⟨b1, 0, none⟩) p_s.length c2)) h5) ?_
            refine WL.gyes rfl rfl hb23 ?_
            refine WL.valw (R.mv (v := (int i_6)) h7) ?_
            refine WL.gyes rfl rfl hb23 ?_
            obtain ⟨c25, hc25, hg24⟩ := bindE hg24
            have hq26 := (map_byt_get hc25).2
            refine WL.valw (R.idxB rfl rfl el86 (by have := (map_byt_get hc25).2; have hl : m8.length = p_s.length := hL9; omega)) ?_
            refine WL.gyes rfl rfl hb23 ?_
            obtain ⟨c27, hc27, hg24⟩ := bindE hg24
            refine WL.valw (R.loadB (i := 0) S rfl rfl lay5 (map_byt_get hc27).1) ?_
            refine WL.gyes rfl rfl hb23 ?_
            refine WL.valw (R.leq8 (a := c27) (b := 90) rfl rfl) ?_
            refine WL.valw (R.pickT rfl hb23 rfl) ?_
            exact WL.nil ⟨(congrArg boo (Option.some.inj hg24)), (by repeat (first | refine agree_upd rfl ?_ | refine agree_upds' rfl ?_ | exact agree_refl)), rfl⟩
          · replace hg24 := condF hg24 hb23
            refine WL.gno rfl rfl hb23 ?_
            refine WL.gno rfl rfl hb23 ?_
            refine WL.gno rfl rfl hb23 ?_
            refine WL.gno rfl rfl hb23 ?_
            refine WL.gno rfl rfl hb23 ?_
            refine WL.valw (R.pickF rfl hb23 rfl) ?_
            exact WL.nil ⟨(congrArg boo (Option.some.inj hg24)), (by repeat (first | refine agree_upd rfl ?_ | refine agree_upds' rfl ?_ | exact agree_refl)), rfl⟩
        · intro us
          refine WL.nil ?_
          rcases condE hy15 with ⟨hc29, hy15⟩ | ⟨hc29, hy15⟩
          · refine WP.condT rfl hc29 ?_
            refine WP.region ?_
            refine WL.valw (R.mv (v := (.slice (some ⟨b1, 0, none⟩) p_s.length c2)) h5) ?_
            refine WL.valw (R.mv (v := (int i_6)) h7) ?_
            obtain ⟨c30, hc30, hy15⟩ := bindE hy15
            have hq31 := (map_byt_get hc30).2
            refine WL.valw (R.idxB rfl rfl el86 (by have := (map_byt_get hc30).2; have hl : m8.length = p_s.length := hL9; omega)) ?_
            obtain ⟨c32, hc32, hy15⟩ := bindE hy15
            refine WL.valw (R.loadB (i := 0) S rfl rfl lay5 (map_byt_get hc32).1) ?_
            refine WL.valw (R.add8 (a := c32) (b := 32) rfl rfl) ?_
            obtain ⟨c33, hc33, hy15⟩ := bindE hy15
            have hq34 := (map_byt_get hc33).2
            refine WL.valw (R.idxB rfl rfl el86 (by have := (map_byt_get hc33).2; have hl : m8.length = p_s.length := hL9; omega)) ?_
            refine W.store (i := 0) ((m8.set i_6.toNat (c32 + 32)).map byt) S rfl rfl rfl lay5 rfl rfl (by rw [List.length_map]; omega) (splice_byt _ _ _ (by omega)) ?_
            intro w35 S
            refine WL.nil ?_
            refine WP.region ?_
            refine WL.valw (R.mv (v := (int i_6)) h7) ?_
            refine WL.valw (R.add rfl rfl) ?_
            refine WL.valw (R.as (v := (int (wr (i_6 + 1)))) rfl) ?_
            refine WL.nil ?_
            obtain rfl := Option.some.inj hy15
            exact ⟨rfl, ⟨H4, h5, rfl, (List.length_set.trans hL9), S⟩⟩
          · refine WP.condF rfl hc29 ?_
            refine WP.skip ?_
            refine WP.region ?_
            refine WL.valw (R.mv (v := (int i_6)) h7) ?_
            refine WL.valw (R.add rfl rfl) ?_
            refine WL.valw (R.as (v := (int (wr (i_6 + 1)))) rfl) ?_
            refine WL.nil ?_
            obtain rfl := Option.some.inj hy15
            exact ⟨rfl, ⟨H4, h5, rfl, hL9, S⟩⟩
      · refine WP.condF rfl hc19 ?_
        refine WP.exit ?_
        obtain rfl := Option.some.inj hy15
        obtain rfl := hy16
        exact ⟨H4, h5, hL9, S⟩
  · rintro f w ⟨H10, h11, hL13, S⟩
    refine WP.seq ?_
    refine WP.region ?_
    refine WL.valw (R.mv (v := (.slice (some ⟨b1, 0, none⟩) p_s.length c2)) h11) ?_
    refine WL.valw (R.strB (i := 0) (s := m12) S (by rw [show m12.length = p_s.length from hL13]; exact rfl) rfl Tryz.underlying86 Tryz.underlying9 Tryz.underlying5) ?_
    refine WL.valw (R.as (v := (str m12)) rfl) ?_
    refine WL.nil ?_
    obtain rfl := Option.some.inj h
    refine WP.ret (Out.one rfl S rfl ?_)
    exact rfl
set_option maxRecDepth 10000 in
set_option maxHeartbeats 4000000 in
theorem ref01_Fold_ok {w0 : World} {H0 : Hp} (hw : Holds w0 H0) (p_a : Str) (p_b : Str) {r : Bool} (h : ref01_Fold p_a p_b = some r) :
    Con Tryz.prog 46 [(str p_a), (str p_b)] w0 H0 (fun H' v => v = (boo r)) := by
  refine Con.mk (N := 17) Tryz.func46 rfl rfl (by kernel_rfl) rfl ?_
  have S := St.start hw
  refine WP.seq ?_
  refine WP.region ?_
  refine WL.valw (R.as (v := (boo false)) rfl) ?_
  refine WL.nil ?_
  refine WP.seq ?_
  refine WP.region ?_
  refine WL.valw (R.mv (v := (str p_a)) rfl) ?_
  refine WL.valw (R.lenS (a := p_a) rfl Tryz.underlying9) ?_
  refine WL.valw (R.mv (v := (str p_b)) rfl) ?_
  refine WL.valw (R.lenS (a := p_b) rfl Tryz.underlying9) ?_
  refine WL.valw (R.eql rfl rfl) ?_
  refine WL.valw (R.mv (v := (boo ((p_a.length : Int) == (p_b.length : Int)))) rfl) ?_
  obtain ⟨b13, hg2, h⟩ := bindE h
  refine WL.grpw 6 [11, 12, 13, 14, 15] 16 (boo b13) (fun w => ∃ H' : Hp, H0.le H' ∧ St w0 H0 w H' []) ?_ ?_
  · rcases boolE ((p_a.length : Int) == (p_b.length : Int)) with hb1 | hb1
    · replace hg2 := condT hg2 hb1
      refine WL.gyes rfl rfl hb1 ?_
      refine WL.valw (R.mv (v := (str p_a)) rfl) ?_
      refine WL.gyes rfl rfl hb1 ?_
      obtain ⟨r3, hr3, hg2⟩ := bindE hg2
      refine W.call S rfl (ref01_Lower_ok S.holds p_a hr3) ?_
      rintro v4 w5 H6 hle7 S rfl
      refine WL.gyes rfl rfl hb1 ?_
      refine WL.valw (R.mv (v := (str p_b)) rfl) ?_
      refine WL.gyes rfl rfl hb1 ?_
      obtain ⟨r8, hr8, hg2⟩ := bindE hg2
      refine W.call S rfl (ref01_Lower_ok S.holds p_b hr8) ?_
      rintro v9 w10 H11 hle12 S rfl
      refine WL.gyes rfl rfl hb1 ?_
      refine WL.valw (R.eqlS (a := r3) (b := r8) rfl rfl) ?_
      refine WL.valw (R.pickT rfl hb1 rfl) ?_
      exact WL.nil ⟨(congrArg boo (Option.some.inj hg2)), (by repeat (first | refine agree_upd rfl ?_ | refine agree_upds' rfl ?_ | exact agree_refl)), ⟨H11, (hle7.trans hle12), S⟩⟩
    · replace hg2 := condF hg2 hb1
      refine WL.gno rfl rfl hb1 ?_
      refine WL.gno rfl rfl hb1 ?_
      refine WL.gno rfl rfl hb1 ?_
      refine WL.gno rfl rfl hb1 ?_
      refine WL.gno rfl rfl hb1 ?_
      refine WL.valw (R.pickF rfl hb1 rfl) ?_
      exact WL.nil ⟨(congrArg boo (Option.some.inj hg2)), (by repeat (first | refine agree_upd rfl ?_ | refine agree_upds' rfl ?_ | exact agree_refl)), ⟨H0, (Hp.le.refl _), S⟩⟩
  · intro us w15 ⟨H14, hle16, S⟩
    refine WL.valw (R.as (v := (boo b13)) rfl) ?_
    refine WL.nil ?_
    obtain rfl := Option.some.inj h
    refine WP.ret (Out.one rfl S rfl ?_)
    exact rfl
set_option maxRecDepth 10000 in
set_option maxHeartbeats 4000000 in
theorem ref01_Get_ok {w0 : World} {H0 : Hp} (hw : Holds w0 H0) (p_l : (List GField)) (p_name : Str) {vp_l : Value} (Rp_l : Sl (α := GField) H0 vp_l p_l) {r : (List Str)} (h : ref01_Get p_l p_name = some r) :
    Con Tryz.prog 51 [vp_l, (str p_name)] w0 H0 (fun H' v => Sl (α := Str) H' v r) := by
  refine Con.mk (N := 29) Tryz.func51 rfl rfl (by kernel_rfl) rfl ?_
  have S := St.start hw
  refine WP.seq ?_
  refine WP.region ?_
  refine WL.valw (R.as (v := (.slice none 0 0)) rfl) ?_
  refine WL.nil ?_
  refine WP.seq ?_
  refine WP.region ?_
  refine WL.valw (R.as (v := (.slice none 0 0)) rfl) ?_
  refine WL.nil ?_
  refine WP.seq ?_
  refine WP.seq ?_
  refine WP.region ?_
  refine WL.valw (R.as (v := (int 0)) rfl) ?_
  refine WL.nil ?_
  have S := S.addNil 9 1
  obtain ⟨out_11, hr19, h⟩ := bindE h
  refine WP.cut (fun f w => ∃ (H10 : Hp) (v12 : Value), f 5 = v12 ∧ Sl (α := Str) H10 v12 out_11 ∧ St w0 H0 w H10 [.row v12 9 1 out_11.length]) ?_ ?_
  · refine WP.block ?_
    refine WP.loopM (ref01_Get_L0 p_l p_name) (fun s f w => match s with | (out_4, i_8) => ∃ (H1 : Hp) (v5 : Value), f 0 = vp_l ∧ f 1 = (str p_name) ∧ f 5 = v5 ∧ f 6 = (int i_8) ∧ Sl (α := GField) H1 vp_l p_l ∧ Sl (α := Str) H1 v5 out_4 ∧ St w0 H0 w H1 [.row v5 9 1 out_4.length]) (([] : List Str), 0) out_11 hr19 ?_ ?_
    · exact ⟨H0, .slice none 0 0, rfl, rfl, rfl, rfl, Rp_l, Sl.nil, S⟩
    · intro s f w hI y15 hy16 hy17
      obtain ⟨out_4, i_8⟩ := s
      obtain ⟨H1, v5, h2, h3, h7, h9, Rp_l, R6, S⟩ := hI
      refine WP.seq ?_
      refine WP.seq ?_
      refine WP.region ?_
      refine WL.valw (R.mv (v := (int i_8)) h9) ?_
      refine WL.valw (R.mv (v := vp_l) h2) ?_
      refine WL.valw (R.lenL (α := GField) (xs := p_l) (H := H1) Rp_l rfl Tryz.underlying22) ?_
      refine WL.valw (R.lss rfl rfl) ?_
      refine WL.nil ?_
      rcases condE hy16 with ⟨hc20, hy16⟩ | ⟨hc20, hy16⟩
      · refine WP.condT rfl hc20 ?_
        refine WP.skip ?_
        refine WP.seq ?_
        refine WP.block ?_
        refine WP.seq ?_
        refine WP.region ?_
        refine WL.valw (R.mv (v := vp_l) h2) ?_
        refine WL.valw (R.mv (v := (int i_8)) h9) ?_
        obtain ⟨x21, hx21, hy16⟩ := bindE hy16
        refine W.idx (α := GField) Rp_l rfl rfl el22 hx21 ?_
        rintro a22 _ hA23 rfl
        refine WL.valw (R.field rfl fld42_0) ?_
        have hA24 := At.add hA23 0 (by simp)
        refine WL.valw (R.loadH (v := (str x21.fName)) S rfl hA24 lay9 rfl) ?_
        refine WL.valw (R.mv (v := (str p_name)) h3) ?_
        obtain ⟨r25, hr25, hy16⟩ := bindE hy16
        refine W.call S rfl (ref01_Fold_ok S.holds x21.fName p_name hr25) ?_
        rintro v26 w27 H28 hle29 S rfl
        have Rp_l := Sl.mono Rp_l hle29
        have R6 := Sl.mono R6 hle29
        have hA23 := At.mono hA23 hle29 (by simp)
        have hA24 := At.mono hA24 hle29 (by simp)
        refine WL.nil ?_
        rcases condE hy16 with ⟨hc30, hy16⟩ | ⟨hc30, hy16⟩
        · refine WP.condT rfl hc30 ?_
          refine WP.region ?_
          refine WL.valw (R.mv (v := v5) h7) ?_
          refine WL.valw (R.mv (v := vp_l) h2) ?_
          refine WL.valw (R.mv (v := (int i_8)) h9) ?_
          obtain ⟨x31, hx31, hy16⟩ := bindE hy16
          refine W.idx (α := GField) Rp_l rfl rfl el22 hx31 ?_
          rintro a32 _ hA33 rfl
          refine WL.valw (R.field rfl fld42_1) ?_
          have hA34 := At.add hA33 1 (by simp)
          refine WL.valw (R.loadH (v := (str x31.fValue)) S rfl hA34 lay9 rfl) ?_
          refine W.bslice (α := Str) [(str x31.fValue)] ([x31.fValue] : List Str) S el38 rfl rfl rfl (by decide) (Go.Eng.encS ⟨rfl, rfl⟩ enc0) ?_
          intro u35 w36 H37 hle38 R39 S
          have Rp_l := Sl.mono Rp_l hle38
          have R6 := Sl.mono R6 hle38
          have hA23 := At.mono hA23 hle38 (by simp)
          have hA24 := At.mono hA24 hle38 (by simp)
          have hA33 := At.mono hA33 hle38 (by simp)
          have hA34 := At.mono hA34 hle38 (by simp)
          obtain ⟨l40, hl40, hy16⟩ := bindE hy16
          refine W.app (α := Str) (i := 1) S el38 rfl rfl rfl R6 R39 hl40 ?_
          intro v41 w42 H43 hle44 R45 S
          have Rp_l := Sl.mono Rp_l hle44
          have R6 := Sl.mono R6 hle44
          have hA23 := At.mono hA23 hle44 (by simp)
          have hA24 := At.mono hA24 hle44 (by simp)
          have hA33 := At.mono hA33 hle44 (by simp)
          have hA34 := At.mono hA34 hle44 (by simp)
          have R39 := Sl.mono R39 hle44
          refine WL.valw (R.as (v := v41) rfl) ?_
          refine WL.nil ?_
          refine WP.region ?_
          refine WL.valw (R.mv (v := (int i_8)) h9) ?_
          refine WL.valw (R.add rfl rfl) ?_
          refine WL.valw (R.as (v := (int (wr (i_8 + 1)))) rfl) ?_
          refine WL.nil ?_
          obtain rfl := Option.some.inj hy16
          exact ⟨rfl, ⟨H43, v41, h2, h3, rfl, rfl, Rp_l, R45, (S.drop _ (.cons _ (.cons_cons _ .slnil)))⟩⟩
        · refine WP.condF rfl hc30 ?_
          refine WP.skip ?_
          refine WP.region ?_
          refine WL.valw (R.mv (v := (int i_8)) h9) ?_
          refine WL.valw (R.add rfl rfl) ?_
          refine WL.valw (R.as (v := (int (wr (i_8 + 1)))) rfl) ?_
          refine WL.nil ?_
          obtain rfl := Option.some.inj hy16
          exact ⟨rfl, ⟨H28, v5, h2, h3, h7, rfl, Rp_l, R6, S⟩⟩
      · refine WP.condF rfl hc20 ?_
        refine WP.exit ?_
        obtain rfl := Option.some.inj hy16
        obtain rfl := hy17
        exact ⟨H1, v5, h7, R6, S⟩
  · rintro f w ⟨H10, v12, h14, R13, S⟩
    refine WP.seq ?_
    refine WP.region ?_
    refine WL.valw (R.mv (v := v12) h14) ?_
    refine WL.valw (R.as (v := v12) rfl) ?_
    refine WL.nil ?_
    obtain rfl := Option.some.inj h
    refine WP.ret (Out.one rfl S rfl ?_)
    exact R13
end Go.Proofs
