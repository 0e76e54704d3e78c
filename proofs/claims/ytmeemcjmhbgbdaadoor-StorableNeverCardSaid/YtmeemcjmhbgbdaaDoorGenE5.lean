/- A part of the proof of laws of the seat: written by program over the translation. -/
import Derived.Test.YtmeemcjmhbgbdaaDoorGenE4
namespace Go.Proofs
open Go.Eng Go.Eng.Pure
set_option linter.unusedVariables false
set_option maxRecDepth 10000 in
set_option maxHeartbeats 4000000 in
theorem storable_Storable_ok {w0 : World} {H0 : Hp} (hw : Holds w0 H0) (p_ppend : GRequest) (p_x1 : GResponse) {vp_ppend3 : Value} {vp_x13 : Value} (Rp_ppend3 : Sl (α := GField) H0 vp_ppend3 p_ppend.fFields) (Rp_x13 : Sl (α := GField) H0 vp_x13 p_x1.fFields) {r : Bool} (h : storable_Storable p_ppend p_x1 = some r) :
    Con Tryd.prog 6 [(agg [(str p_ppend.fMethod), (str p_ppend.fTarget), (int p_ppend.fMinor), vp_ppend3, (str p_ppend.fBody)]), (agg [(int p_x1.fMinor), (int p_x1.fStatus), (str p_x1.fReason), vp_x13, (str p_x1.fBody)])] w0 H0 (fun H' v => v = (boo r)) := by
  refine Con.mk (N := 69) Tryd.func6 rfl rfl (by kernel_rfl) rfl ?_
  have S := St.start hw
  refine WP.seq ?_
  refine WP.region ?_
  refine W.box [(str p_ppend.fMethod), (str p_ppend.fTarget), (int p_ppend.fMinor), vp_ppend3, (str p_ppend.fBody)] S rfl rfl ?_
  intro b1 w2 S
  refine W.box [(int p_x1.fMinor), (int p_x1.fStatus), (str p_x1.fReason), vp_x13, (str p_x1.fBody)] S rfl rfl ?_
  intro b3 w4 S
  refine WL.valw (R.as (v := (boo false)) rfl) ?_
  refine WL.nil ?_
  refine WP.seq ?_
  refine WP.seq ?_
  refine WP.region ?_
  refine WL.valw (R.fieldB rfl fld24_0) ?_
  refine WL.valw (R.loadB (i := 1) (v := (str p_ppend.fMethod)) S rfl rfl lay9 rfl) ?_
  refine WL.valw (R.neqS (a := p_ppend.fMethod) (b := [71, 69, 84]) rfl rfl) ?_
  refine WL.valw (R.mv (v := (boo (p_ppend.fMethod != [71, 69, 84]))) rfl) ?_
  refine WL.grp 4 [12, 13, 14] 15 (boo ((p_ppend.fMethod != [71, 69, 84]) || (p_x1.fStatus != 200))) ?_ ?_
  · rcases boolE (p_ppend.fMethod != [71, 69, 84]) with hb5 | hb5
    · refine WL.gno rfl rfl hb5 ?_
      refine WL.gno rfl rfl hb5 ?_
      refine WL.gno rfl rfl hb5 ?_
      refine WL.valw (R.pickT rfl hb5 rfl) ?_
      exact WL.nil ⟨(orT hb5), (by repeat (first | refine agree_upd rfl ?_ | refine agree_upds' rfl ?_ | exact agree_refl)), rfl⟩
    · refine WL.gyes rfl rfl hb5 ?_
      refine WL.valw (R.fieldB rfl fld26_1) ?_
      refine WL.gyes rfl rfl hb5 ?_
      refine WL.valw (R.loadB (i := 0) (v := (int p_x1.fStatus)) S rfl rfl lay3 rfl) ?_
      refine WL.gyes rfl rfl hb5 ?_
      refine WL.valw (R.neq rfl rfl) ?_
      refine WL.valw (R.pickF rfl hb5 rfl) ?_
      exact WL.nil ⟨(orF hb5), (by repeat (first | refine agree_upd rfl ?_ | refine agree_upds' rfl ?_ | exact agree_refl)), rfl⟩
  · intro us
    refine WL.nil ?_
    rcases condE h with ⟨hc7, h⟩ | ⟨hc7, h⟩
    · refine WP.condT rfl hc7 ?_
      refine WP.seq ?_
      refine WP.region ?_
      refine WL.valw (R.as (v := (boo false)) rfl) ?_
      refine WL.nil ?_
      obtain rfl := Option.some.inj h
      refine WP.ret (Out.one rfl S rfl ?_)
      exact rfl
    · refine WP.condF rfl hc7 ?_
      refine WP.skip ?_
      refine WP.seq ?_
      refine WP.region ?_
      refine WL.valw (R.fieldB rfl fld26_3) ?_
      refine WL.valw (R.loadB (i := 0) (v := vp_x13) S rfl rfl lay22 rfl) ?_
      obtain ⟨r8, hr8, h⟩ := bindE h
      refine W.call S rfl (cachecontrol_Response_ok S.holds p_x1.fFields Rp_x13 hr8) ?_
      rintro v9 w10 H11 hle12 S rfl
      have Rp_ppend3 := Sl.mono Rp_ppend3 hle12
      have Rp_x13 := Sl.mono Rp_x13 hle12
      refine W.alloc [(boo false), (boo false), (boo false), (boo false), (boo false), (boo false), (boo false), (int 0), (int 0), (int 0), (int 0)] S zer36 ?_
      intro b13 w14 S
      refine W.store (i := 0) [(boo r8.fNoStore), (boo r8.fNoCache), (boo r8.fMustRevalidate), (boo r8.fProxyRevalidate), (boo r8.fPrivate), (boo r8.fPublic), (boo r8.fOnlyIfCached), (int r8.fMaxAge), (int r8.fSMaxAge), (int r8.fMinFresh), (int r8.fMaxStale)] S rfl rfl rfl lay36 rfl rfl (Nat.le_of_ble_eq_true rfl) rfl ?_
      intro w15 S
      refine WL.nil ?_
      refine WP.seq ?_
      refine WP.seq ?_
      refine WP.region ?_
      refine WL.valw (R.fieldB rfl fld36_0) ?_
      refine WL.valw (R.loadB (i := 0) (v := (boo r8.fNoStore)) S rfl rfl lay4 rfl) ?_
      refine WL.valw (R.mv (v := (boo r8.fNoStore)) rfl) ?_
      refine WL.grp 3 [22, 23] 24 (boo (r8.fNoStore || r8.fPrivate)) ?_ ?_
      · rcases boolE r8.fNoStore with hb16 | hb16
        · refine WL.gno rfl rfl hb16 ?_
          refine WL.gno rfl rfl hb16 ?_
          refine WL.valw (R.pickT rfl hb16 rfl) ?_
          exact WL.nil ⟨(orT hb16), (by repeat (first | refine agree_upd rfl ?_ | refine agree_upds' rfl ?_ | exact agree_refl)), rfl⟩
        · refine WL.gyes rfl rfl hb16 ?_
          refine WL.valw (R.fieldB rfl fld36_4) ?_
          refine WL.gyes rfl rfl hb16 ?_
          refine WL.valw (R.loadB (i := 0) (v := (boo r8.fPrivate)) S rfl rfl lay4 rfl) ?_
          refine WL.valw (R.pickF rfl hb16 rfl) ?_
          exact WL.nil ⟨(orF hb16), (by repeat (first | refine agree_upd rfl ?_ | refine agree_upds' rfl ?_ | exact agree_refl)), rfl⟩
      · intro us
        refine WL.valw (R.mv (v := (boo (r8.fNoStore || r8.fPrivate))) rfl) ?_
        obtain ⟨b25, hg19, h⟩ := bindE h
        refine WL.grpw 5 [26, 27, 28, 29] 30 (boo b25) (fun w => ∃ H' : Hp, H11.le H' ∧ St w0 H0 w H' [.box b13 36 [(boo r8.fNoStore), (boo r8.fNoCache), (boo r8.fMustRevalidate), (boo r8.fProxyRevalidate), (boo r8.fPrivate), (boo r8.fPublic), (boo r8.fOnlyIfCached), (int r8.fMaxAge), (int r8.fSMaxAge), (int r8.fMinFresh), (int r8.fMaxStale)], .box b3 26 [(int p_x1.fMinor), (int p_x1.fStatus), (str p_x1.fReason), vp_x13, (str p_x1.fBody)], .box b1 24 [(str p_ppend.fMethod), (str p_ppend.fTarget), (int p_ppend.fMinor), vp_ppend3, (str p_ppend.fBody)]]) ?_ ?_
        · rcases boolE (r8.fNoStore || r8.fPrivate) with hb18 | hb18
          · replace hg19 := condT hg19 hb18
            refine WL.gno rfl rfl hb18 ?_
            refine WL.gno rfl rfl hb18 ?_
            refine WL.gno rfl rfl hb18 ?_
            refine WL.gno rfl rfl hb18 ?_
            refine WL.valw (R.pickT rfl hb18 rfl) ?_
            exact WL.nil ⟨(congrArg boo (Option.some.inj hg19)), (by repeat (first | refine agree_upd rfl ?_ | refine agree_upds' rfl ?_ | exact agree_refl)), ⟨H11, (Hp.le.refl _), S⟩⟩
          · replace hg19 := condF hg19 hb18
            refine WL.gyes rfl rfl hb18 ?_
            refine WL.valw (R.fieldB rfl fld24_3) ?_
            refine WL.gyes rfl rfl hb18 ?_
            refine WL.valw (R.loadB (i := 2) (v := vp_ppend3) S rfl rfl lay22 rfl) ?_
            refine WL.gyes rfl rfl hb18 ?_
            obtain ⟨r20, hr20, hg19⟩ := bindE hg19
            refine W.call S rfl (cachecontrol_Request_ok S.holds p_ppend.fFields Rp_ppend3 hr20) ?_
            rintro v21 w22 H23 hle24 S rfl
            have Rp_ppend3 := Sl.mono Rp_ppend3 hle24
            have Rp_x13 := Sl.mono Rp_x13 hle24
            refine WL.gyes rfl rfl hb18 ?_
            refine WL.valw (v := (boo r20.fNoStore)) (R.fieldV (cs := [(boo r20.fNoStore), (boo r20.fNoCache), (boo r20.fMustRevalidate), (boo r20.fProxyRevalidate), (boo r20.fPrivate), (boo r20.fPublic), (boo r20.fOnlyIfCached), (int r20.fMaxAge), (int r20.fSMaxAge), (int r20.fMinFresh), (int r20.fMaxStale)]) rfl fty36_0 lay4 rfl) ?_
            refine WL.valw (R.pickF rfl hb18 rfl) ?_
            exact WL.nil ⟨(congrArg boo (Option.some.inj hg19)), (by repeat (first | refine agree_upd rfl ?_ | refine agree_upds' rfl ?_ | exact agree_refl)), ⟨H23, hle24, S⟩⟩
        · intro us w27 ⟨H26, hle28, S⟩
          have Rp_ppend3 := Sl.mono Rp_ppend3 hle28
          have Rp_x13 := Sl.mono Rp_x13 hle28
          refine WL.nil ?_
          rcases condE h with ⟨hc29, h⟩ | ⟨hc29, h⟩
          · refine WP.condT rfl hc29 ?_
            refine WP.seq ?_
            refine WP.region ?_
            refine WL.valw (R.as (v := (boo false)) rfl) ?_
            refine WL.nil ?_
            obtain rfl := Option.some.inj h
            refine WP.ret (Out.one rfl S rfl ?_)
            exact rfl
          · refine WP.condF rfl hc29 ?_
            refine WP.skip ?_
            refine WP.seq ?_
            refine WP.seq ?_
            refine WP.region ?_
            refine WL.valw (R.fieldB rfl fld26_3) ?_
            refine WL.valw (R.loadB (i := 1) (v := vp_x13) S rfl rfl lay22 rfl) ?_
            obtain ⟨r30, hr30, h⟩ := bindE h
            refine W.call S rfl (vary_Names_ok S.holds p_x1.fFields Rp_x13 hr30) ?_
            rintro v31 w32 H33 hle34 S ⟨u35, rfl, R36⟩
            have Rp_ppend3 := Sl.mono Rp_ppend3 hle34
            have Rp_x13 := Sl.mono Rp_x13 hle34
            refine WL.valw (R.mv (v := (.tuple ⟨[u35, (boo r30.2)]⟩)) rfl) ?_
            refine WL.valw (R.ext rfl rfl) ?_
            refine WL.valw (R.ext rfl rfl) ?_
            refine WL.valw (R.as (v := u35) rfl) ?_
            refine WL.valw (R.as (v := (boo r30.2)) rfl) ?_
            refine WL.nil ?_
            refine WP.seq ?_
            refine WP.region ?_
            refine WL.valw (R.mv (v := (boo r30.2)) rfl) ?_
            refine WL.valw (R.not rfl) ?_
            refine WL.nil ?_
            rcases condE h with ⟨hc37, h⟩ | ⟨hc37, h⟩
            · refine WP.condT rfl hc37 ?_
              refine WP.seq ?_
              refine WP.region ?_
              refine WL.valw (R.as (v := (boo false)) rfl) ?_
              refine WL.nil ?_
              obtain rfl := Option.some.inj h
              refine WP.ret (Out.one rfl S rfl ?_)
              exact rfl
            · refine WP.condF rfl hc37 ?_
              refine WP.skip ?_
              refine WP.seq ?_
              refine WP.seq ?_
              refine WP.region ?_
              refine WL.valw (R.fieldB rfl fld24_3) ?_
              refine WL.valw (R.loadB (i := 2) (v := vp_ppend3) S rfl rfl lay22 rfl) ?_
              obtain ⟨r38, hr38, h⟩ := bindE h
              refine W.call S rfl (fieldline_Has_ok S.holds p_ppend.fFields [82, 97, 110, 103, 101] Rp_ppend3 hr38) ?_
              rintro v39 w40 H41 hle42 S rfl
              have Rp_ppend3 := Sl.mono Rp_ppend3 hle42
              have Rp_x13 := Sl.mono Rp_x13 hle42
              have R36 := Sl.mono R36 hle42
              refine WL.nil ?_
              rcases condE h with ⟨hc43, h⟩ | ⟨hc43, h⟩
              · refine WP.condT rfl hc43 ?_
                refine WP.seq ?_
                refine WP.region ?_
                refine WL.valw (R.as (v := (boo false)) rfl) ?_
                refine WL.nil ?_
                obtain rfl := Option.some.inj h
                refine WP.ret (Out.one rfl S rfl ?_)
                exact rfl
              · refine WP.condF rfl hc43 ?_
                refine WP.skip ?_
                refine WP.seq ?_
                refine WP.seq ?_
                refine WP.region ?_
                refine WL.valw (R.fieldB rfl fld24_3) ?_
                refine WL.valw (R.loadB (i := 2) (v := vp_ppend3) S rfl rfl lay22 rfl) ?_
                obtain ⟨r44, hr44, h⟩ := bindE h
                refine W.call S rfl (fieldline_Has_ok S.holds p_ppend.fFields [65, 117, 116, 104, 111, 114, 105, 122, 97, 116, 105, 111, 110] Rp_ppend3 hr44) ?_
                rintro v45 w46 H47 hle48 S rfl
                have Rp_ppend3 := Sl.mono Rp_ppend3 hle48
                have Rp_x13 := Sl.mono Rp_x13 hle48
                have R36 := Sl.mono R36 hle48
                refine WL.valw (R.mv (v := (boo r44)) rfl) ?_
                refine WL.grp 4 [46, 47, 48] 49 (boo (r44 && (!r8.fMustRevalidate))) ?_ ?_
                · rcases boolE r44 with hb49 | hb49
                  · refine WL.gyes rfl rfl hb49 ?_
                    refine WL.valw (R.fieldB rfl fld36_2) ?_
                    refine WL.gyes rfl rfl hb49 ?_
                    refine WL.valw (R.loadB (i := 0) (v := (boo r8.fMustRevalidate)) S rfl rfl lay4 rfl) ?_
                    refine WL.gyes rfl rfl hb49 ?_
                    refine WL.valw (R.not rfl) ?_
                    refine WL.valw (R.pickT rfl hb49 rfl) ?_
                    exact WL.nil ⟨(andT hb49), (by repeat (first | refine agree_upd rfl ?_ | refine agree_upds' rfl ?_ | exact agree_refl)), rfl⟩
                  · refine WL.gno rfl rfl hb49 ?_
                    refine WL.gno rfl rfl hb49 ?_
                    refine WL.gno rfl rfl hb49 ?_
                    refine WL.valw (R.pickF rfl hb49 rfl) ?_
                    exact WL.nil ⟨(andF hb49), (by repeat (first | refine agree_upd rfl ?_ | refine agree_upds' rfl ?_ | exact agree_refl)), rfl⟩
                · intro us
                  refine WL.valw (R.mv (v := (boo (r44 && (!r8.fMustRevalidate)))) rfl) ?_
                  refine WL.grp 4 [51, 52, 53] 54 (boo ((r44 && (!r8.fMustRevalidate)) && (!r8.fPublic))) ?_ ?_
                  · rcases boolE (r44 && (!r8.fMustRevalidate)) with hb51 | hb51
                    · refine WL.gyes rfl rfl hb51 ?_
                      refine WL.valw (R.fieldB rfl fld36_5) ?_
                      refine WL.gyes rfl rfl hb51 ?_
                      refine WL.valw (R.loadB (i := 0) (v := (boo r8.fPublic)) S rfl rfl lay4 rfl) ?_
                      refine WL.gyes rfl rfl hb51 ?_
                      refine WL.valw (R.not rfl) ?_
                      refine WL.valw (R.pickT rfl hb51 rfl) ?_
                      exact WL.nil ⟨(andT hb51), (by repeat (first | refine agree_upd rfl ?_ | refine agree_upds' rfl ?_ | exact agree_refl)), rfl⟩
                    · refine WL.gno rfl rfl hb51 ?_
                      refine WL.gno rfl rfl hb51 ?_
                      refine WL.gno rfl rfl hb51 ?_
                      refine WL.valw (R.pickF rfl hb51 rfl) ?_
                      exact WL.nil ⟨(andF hb51), (by repeat (first | refine agree_upd rfl ?_ | refine agree_upds' rfl ?_ | exact agree_refl)), rfl⟩
                  · intro us
                    refine WL.valw (R.mv (v := (boo ((r44 && (!r8.fMustRevalidate)) && (!r8.fPublic)))) rfl) ?_
                    refine WL.grp 4 [56, 57, 58] 59 (boo (((r44 && (!r8.fMustRevalidate)) && (!r8.fPublic)) && (r8.fSMaxAge == (-1)))) ?_ ?_
                    · rcases boolE ((r44 && (!r8.fMustRevalidate)) && (!r8.fPublic)) with hb53 | hb53
                      · refine WL.gyes rfl rfl hb53 ?_
                        refine WL.valw (R.fieldB rfl fld36_8) ?_
                        refine WL.gyes rfl rfl hb53 ?_
                        refine WL.valw (R.loadB (i := 0) (v := (int r8.fSMaxAge)) S rfl rfl lay3 rfl) ?_
                        refine WL.gyes rfl rfl hb53 ?_
                        refine WL.valw (R.eql rfl rfl) ?_
                        refine WL.valw (R.pickT rfl hb53 rfl) ?_
                        exact WL.nil ⟨(andT hb53), (by repeat (first | refine agree_upd rfl ?_ | refine agree_upds' rfl ?_ | exact agree_refl)), rfl⟩
                      · refine WL.gno rfl rfl hb53 ?_
                        refine WL.gno rfl rfl hb53 ?_
                        refine WL.gno rfl rfl hb53 ?_
                        refine WL.valw (R.pickF rfl hb53 rfl) ?_
                        exact WL.nil ⟨(andF hb53), (by repeat (first | refine agree_upd rfl ?_ | refine agree_upds' rfl ?_ | exact agree_refl)), rfl⟩
                    · intro us
                      refine WL.nil ?_
                      rcases condE h with ⟨hc55, h⟩ | ⟨hc55, h⟩
                      · refine WP.condT rfl hc55 ?_
                        refine WP.seq ?_
                        refine WP.region ?_
                        refine WL.valw (R.as (v := (boo false)) rfl) ?_
                        refine WL.nil ?_
                        obtain rfl := Option.some.inj h
                        refine WP.ret (Out.one rfl S rfl ?_)
                        exact rfl
                      · refine WP.condF rfl hc55 ?_
                        refine WP.skip ?_
                        refine WP.seq ?_
                        refine WP.region ?_
                        refine WL.valw (R.fieldB rfl fld26_3) ?_
                        refine WL.valw (R.loadB (i := 1) (v := vp_x13) S rfl rfl lay22 rfl) ?_
                        obtain ⟨r56, hr56, h⟩ := bindE h
                        refine W.call S rfl (freshness_Lifetime_ok S.holds p_x1.fFields Rp_x13 hr56) ?_
                        rintro v57 w58 H59 hle60 S rfl
                        have Rp_ppend3 := Sl.mono Rp_ppend3 hle60
                        have Rp_x13 := Sl.mono Rp_x13 hle60
                        have R36 := Sl.mono R36 hle60
                        refine WL.valw (R.gtr rfl rfl) ?_
                        refine WL.valw (R.mv (v := (boo (decide (0 < r56)))) rfl) ?_
                        obtain ⟨b68, hg62, h⟩ := bindE h
                        refine WL.grpw 4 [65, 66, 67] 68 (boo b68) (fun w => ∃ H' : Hp, H59.le H' ∧ St w0 H0 w H' [.box b13 36 [(boo r8.fNoStore), (boo r8.fNoCache), (boo r8.fMustRevalidate), (boo r8.fProxyRevalidate), (boo r8.fPrivate), (boo r8.fPublic), (boo r8.fOnlyIfCached), (int r8.fMaxAge), (int r8.fSMaxAge), (int r8.fMinFresh), (int r8.fMaxStale)], .box b3 26 [(int p_x1.fMinor), (int p_x1.fStatus), (str p_x1.fReason), vp_x13, (str p_x1.fBody)], .box b1 24 [(str p_ppend.fMethod), (str p_ppend.fTarget), (int p_ppend.fMinor), vp_ppend3, (str p_ppend.fBody)]]) ?_ ?_
                        · rcases boolE (decide (0 < r56)) with hb61 | hb61
                          · replace hg62 := condT hg62 hb61
                            refine WL.gno rfl rfl hb61 ?_
                            refine WL.gno rfl rfl hb61 ?_
                            refine WL.gno rfl rfl hb61 ?_
                            refine WL.valw (R.pickT rfl hb61 rfl) ?_
                            exact WL.nil ⟨(congrArg boo (Option.some.inj hg62)), (by repeat (first | refine agree_upd rfl ?_ | refine agree_upds' rfl ?_ | exact agree_refl)), ⟨H59, (Hp.le.refl _), S⟩⟩
                          · replace hg62 := condF hg62 hb61
                            refine WL.gyes rfl rfl hb61 ?_
                            refine WL.valw (R.fieldB rfl fld26_3) ?_
                            refine WL.gyes rfl rfl hb61 ?_
                            refine WL.valw (R.loadB (i := 1) (v := vp_x13) S rfl rfl lay22 rfl) ?_
                            refine WL.gyes rfl rfl hb61 ?_
                            obtain ⟨r63, hr63, hg62⟩ := bindE hg62
                            refine W.call S rfl (storable_Validator_ok S.holds p_x1.fFields Rp_x13 hr63) ?_
                            rintro v64 w65 H66 hle67 S rfl
                            have Rp_ppend3 := Sl.mono Rp_ppend3 hle67
                            have Rp_x13 := Sl.mono Rp_x13 hle67
                            have R36 := Sl.mono R36 hle67
                            refine WL.valw (R.pickF rfl hb61 rfl) ?_
                            exact WL.nil ⟨(congrArg boo (Option.some.inj hg62)), (by repeat (first | refine agree_upd rfl ?_ | refine agree_upds' rfl ?_ | exact agree_refl)), ⟨H66, hle67, S⟩⟩
                        · intro us w70 ⟨H69, hle71, S⟩
                          have Rp_ppend3 := Sl.mono Rp_ppend3 hle71
                          have Rp_x13 := Sl.mono Rp_x13 hle71
                          have R36 := Sl.mono R36 hle71
                          refine WL.valw (R.as (v := (boo b68)) rfl) ?_
                          refine WL.nil ?_
                          obtain rfl := Option.some.inj h
                          refine WP.ret (Out.one rfl S rfl ?_)
                          exact rfl
set_option maxRecDepth 10000 in
set_option maxHeartbeats 4000000 in
theorem storable_Unsafe_ok {w0 : World} {H0 : Hp} (hw : Holds w0 H0) (p_method : Str) {r : Bool} (h : storable_Unsafe p_method = some r) :
    Con Tryd.prog 15 [(str p_method)] w0 H0 (fun H' v => v = (boo r)) := by
  refine Con.mk (N := 17) Tryd.func15 rfl rfl (by kernel_rfl) rfl ?_
  have S := St.start hw
  refine WP.seq ?_
  refine WP.region ?_
  refine WL.valw (R.as (v := (boo false)) rfl) ?_
  refine WL.nil ?_
  refine WP.seq ?_
  refine WP.region ?_
  refine WL.valw (R.mv (v := (str p_method)) rfl) ?_
  refine WL.valw (R.neqS (a := p_method) (b := [71, 69, 84]) rfl rfl) ?_
  refine WL.valw (R.mv (v := (boo (p_method != [71, 69, 84]))) rfl) ?_
  refine WL.grp 3 [6, 7] 8 (boo ((p_method != [71, 69, 84]) && (p_method != [72, 69, 65, 68]))) ?_ ?_
  · rcases boolE (p_method != [71, 69, 84]) with hb1 | hb1
    · refine WL.gyes rfl rfl hb1 ?_
      refine WL.valw (R.mv (v := (str p_method)) rfl) ?_
      refine WL.gyes rfl rfl hb1 ?_
      refine WL.valw (R.neqS (a := p_method) (b := [72, 69, 65, 68]) rfl rfl) ?_
      refine WL.valw (R.pickT rfl hb1 rfl) ?_
      exact WL.nil ⟨(andT hb1), (by repeat (first | refine agree_upd rfl ?_ | refine agree_upds' rfl ?_ | exact agree_refl)), rfl⟩
    · refine WL.gno rfl rfl hb1 ?_
      refine WL.gno rfl rfl hb1 ?_
      refine WL.valw (R.pickF rfl hb1 rfl) ?_
      exact WL.nil ⟨(andF hb1), (by repeat (first | refine agree_upd rfl ?_ | refine agree_upds' rfl ?_ | exact agree_refl)), rfl⟩
  · intro us
    refine WL.valw (R.mv (v := (boo ((p_method != [71, 69, 84]) && (p_method != [72, 69, 65, 68])))) rfl) ?_
    refine WL.grp 3 [10, 11] 12 (boo (((p_method != [71, 69, 84]) && (p_method != [72, 69, 65, 68])) && (p_method != [79, 80, 84, 73, 79, 78, 83]))) ?_ ?_
    · rcases boolE ((p_method != [71, 69, 84]) && (p_method != [72, 69, 65, 68])) with hb3 | hb3
      · refine WL.gyes rfl rfl hb3 ?_
        refine WL.valw (R.mv (v := (str p_method)) rfl) ?_
        refine WL.gyes rfl rfl hb3 ?_
        refine WL.valw (R.neqS (a := p_method) (b := [79, 80, 84, 73, 79, 78, 83]) rfl rfl) ?_
        refine WL.valw (R.pickT rfl hb3 rfl) ?_
        exact WL.nil ⟨(andT hb3), (by repeat (first | refine agree_upd rfl ?_ | refine agree_upds' rfl ?_ | exact agree_refl)), rfl⟩
      · refine WL.gno rfl rfl hb3 ?_
        refine WL.gno rfl rfl hb3 ?_
        refine WL.valw (R.pickF rfl hb3 rfl) ?_
        exact WL.nil ⟨(andF hb3), (by repeat (first | refine agree_upd rfl ?_ | refine agree_upds' rfl ?_ | exact agree_refl)), rfl⟩
    · intro us
      refine WL.valw (R.mv (v := (boo (((p_method != [71, 69, 84]) && (p_method != [72, 69, 65, 68])) && (p_method != [79, 80, 84, 73, 79, 78, 83])))) rfl) ?_
      refine WL.grp 3 [14, 15] 16 (boo ((((p_method != [71, 69, 84]) && (p_method != [72, 69, 65, 68])) && (p_method != [79, 80, 84, 73, 79, 78, 83])) && (p_method != [84, 82, 65, 67, 69]))) ?_ ?_
      · rcases boolE (((p_method != [71, 69, 84]) && (p_method != [72, 69, 65, 68])) && (p_method != [79, 80, 84, 73, 79, 78, 83])) with hb5 | hb5
        · refine WL.gyes rfl rfl hb5 ?_
          refine WL.valw (R.mv (v := (str p_method)) rfl) ?_
          refine WL.gyes rfl rfl hb5 ?_
          refine WL.valw (R.neqS (a := p_method) (b := [84, 82, 65, 67, 69]) rfl rfl) ?_
          refine WL.valw (R.pickT rfl hb5 rfl) ?_
          exact WL.nil ⟨(andT hb5), (by repeat (first | refine agree_upd rfl ?_ | refine agree_upds' rfl ?_ | exact agree_refl)), rfl⟩
        · refine WL.gno rfl rfl hb5 ?_
          refine WL.gno rfl rfl hb5 ?_
          refine WL.valw (R.pickF rfl hb5 rfl) ?_
          exact WL.nil ⟨(andF hb5), (by repeat (first | refine agree_upd rfl ?_ | refine agree_upds' rfl ?_ | exact agree_refl)), rfl⟩
      · intro us
        refine WL.valw (R.as (v := (boo ((((p_method != [71, 69, 84]) && (p_method != [72, 69, 65, 68])) && (p_method != [79, 80, 84, 73, 79, 78, 83])) && (p_method != [84, 82, 65, 67, 69])))) rfl) ?_
        refine WL.nil ?_
        obtain rfl := Option.some.inj h
        refine WP.ret (Out.one rfl S rfl ?_)
        exact rfl
set_option maxRecDepth 10000 in
set_option maxHeartbeats 4000000 in
theorem law24_awake_ok {w0 : World} {H0 : Hp} (hw : Holds w0 H0) {r : Bool} (h : law24_awake = some r) :
    Con Tryd.prog 7 [] w0 H0 (fun H' v => v = (boo r)) := by
  refine Con.mk (N := 19) Tryd.func7 rfl rfl (by kernel_rfl) rfl ?_
  have S := St.start hw
  refine WP.seq ?_
  refine WP.region ?_
  refine WL.valw (R.as (v := (boo false)) rfl) ?_
  refine WL.nil ?_
  refine WP.seq ?_
  refine WP.region ?_
  refine WL.valw (R.build [(0, (str [71, 69, 84]))] [(str [71, 69, 84]), (str []), (int 0), (.slice none 0 0), (str [])] bp24 zer24 rfl rfl) ?_
  refine W.alloc [(str []), (str []), (int 0), (.slice none 0 0), (str [])] S zer24 ?_
  intro b1 w2 S
  refine W.store (i := 0) [(str [71, 69, 84]), (str []), (int 0), (.slice none 0 0), (str [])] S rfl rfl rfl lay24 rfl (AllOne.all (l := [(str [71, 69, 84]), (str []), (int 0), (.slice none 0 0), (str [])]) (.cons rfl (.cons rfl (.cons rfl (.cons rfl (.cons rfl .nil)))))) (Nat.le_of_ble_eq_true rfl) rfl ?_
  intro w3 S
  refine WL.nil ?_
  refine WP.seq ?_
  refine WP.region ?_
  refine WL.valw (R.build [(0, (str [67, 97, 99, 104, 101, 45, 67, 111, 110, 116, 114, 111, 108])), (1, (str [109, 97, 120, 45, 97, 103, 101, 61, 49]))] [(str [67, 97, 99, 104, 101, 45, 67, 111, 110, 116, 114, 111, 108]), (str [109, 97, 120, 45, 97, 103, 101, 61, 49])] bp30 zer30 rfl rfl) ?_
  refine W.bslice (α := GField) [(agg [(str [67, 97, 99, 104, 101, 45, 67, 111, 110, 116, 114, 111, 108]), (str [109, 97, 120, 45, 97, 103, 101, 61, 49])])] ([(⟨[67, 97, 99, 104, 101, 45, 67, 111, 110, 116, 114, 111, 108], [109, 97, 120, 45, 97, 103, 101, 61, 49]⟩ : GField)] : List GField) S el22 rfl rfl rfl (by decide) (Go.Eng.encS ⟨rfl, rfl⟩ enc0) ?_
  intro u4 w5 H6 hle7 R8 S
  refine WL.valw (R.build [(1, (int 200)), (3, u4)] [(int 0), (int 200), (str []), u4, (str [])] bp26 zer26 rfl (by obtain ⟨_, _, rfl, _⟩ := R8; rfl)) ?_
  refine W.alloc [(int 0), (int 0), (str []), (.slice none 0 0), (str [])] S zer26 ?_
  intro b9 w10 S
  refine W.store (i := 0) [(int 0), (int 200), (str []), u4, (str [])] S rfl rfl rfl lay26 rfl (AllOne.all (l := [(int 0), (int 200), (str []), u4, (str [])]) (.cons rfl (.cons rfl (.cons rfl (.cons (Sl.oneC R8) (.cons rfl .nil)))))) (Nat.le_of_ble_eq_true rfl) rfl ?_
  intro w11 S
  refine WL.nil ?_
  refine WP.seq ?_
  refine WP.region ?_
  refine WL.valw (R.loadBN (i := 2) (vs := [(str [71, 69, 84]), (str []), (int 0), (.slice none 0 0), (str [])]) S rfl rfl lay24 rfl rfl) ?_
  refine WL.valw (R.loadBN (i := 0) (vs := [(int 0), (int 200), (str []), u4, (str [])]) S rfl rfl lay26 rfl rfl) ?_
  obtain ⟨r12, hr12, h⟩ := bindE h
  refine W.call S rfl (storable_Storable_ok S.holds (⟨[71, 69, 84], [], 0, ([] : List GField), []⟩ : GRequest) (⟨0, 200, [], ([(⟨[67, 97, 99, 104, 101, 45, 67, 111, 110, 116, 114, 111, 108], [109, 97, 120, 45, 97, 103, 101, 61, 49]⟩ : GField)] : List GField), []⟩ : GResponse) Sl.nil R8 hr12) ?_
  rintro v13 w14 H15 hle16 S rfl
  have R8 := Sl.mono R8 hle16
  refine WL.valw (R.mv (v := (boo r12)) rfl) ?_
  obtain ⟨b24, hg18, h⟩ := bindE h
  refine WL.grpw 5 [11, 12, 13, 14] 15 (boo b24) (fun w => ∃ H' : Hp, H15.le H' ∧ St w0 H0 w H' [.box b9 26 [(int 0), (int 200), (str []), u4, (str [])], .row u4 30 2 ([(⟨[67, 97, 99, 104, 101, 45, 67, 111, 110, 116, 114, 111, 108], [109, 97, 120, 45, 97, 103, 101, 61, 49]⟩ : GField)] : List GField).length, .box b1 24 [(str [71, 69, 84]), (str []), (int 0), (.slice none 0 0), (str [])]]) ?_ ?_
  · rcases boolE r12 with hb17 | hb17
    · replace hg18 := condT hg18 hb17
      refine WL.gyes rfl rfl hb17 ?_
      refine WL.valw (R.loadBN (i := 2) (vs := [(str [71, 69, 84]), (str []), (int 0), (.slice none 0 0), (str [])]) S rfl rfl lay24 rfl rfl) ?_
      refine WL.gyes rfl rfl hb17 ?_
      refine WL.valw (R.build [(1, (int 200))] [(int 0), (int 200), (str []), (.slice none 0 0), (str [])] bp26 zer26 rfl rfl) ?_
      refine WL.gyes rfl rfl hb17 ?_
      obtain ⟨r19, hr19, hg18⟩ := bindE hg18
      refine W.call S rfl (storable_Storable_ok S.holds (⟨[71, 69, 84], [], 0, ([] : List GField), []⟩ : GRequest) (⟨0, 200, [], ([] : List GField), []⟩ : GResponse) Sl.nil Sl.nil hr19) ?_
      rintro v20 w21 H22 hle23 S rfl
      have R8 := Sl.mono R8 hle23
      refine WL.gyes rfl rfl hb17 ?_
      refine WL.valw (R.not rfl) ?_
      refine WL.valw (R.pickT rfl hb17 rfl) ?_
      exact WL.nil ⟨(congrArg boo (Option.some.inj hg18)), (by repeat (first | refine agree_upd rfl ?_ | refine agree_upds' rfl ?_ | exact agree_refl)), ⟨H22, hle23, S⟩⟩
    · replace hg18 := condF hg18 hb17
      refine WL.gno rfl rfl hb17 ?_
      refine WL.gno rfl rfl hb17 ?_
      refine WL.gno rfl rfl hb17 ?_
      refine WL.gno rfl rfl hb17 ?_
      refine WL.valw (R.pickF rfl hb17 rfl) ?_
      exact WL.nil ⟨(congrArg boo (Option.some.inj hg18)), (by repeat (first | refine agree_upd rfl ?_ | refine agree_upds' rfl ?_ | exact agree_refl)), ⟨H15, (Hp.le.refl _), S⟩⟩
  · intro us w26 ⟨H25, hle27, S⟩
    have R8 := Sl.mono R8 hle27
    refine WL.valw (R.mv (v := (boo b24)) rfl) ?_
    obtain ⟨b35, hg29, h⟩ := bindE h
    refine WL.grpw 2 [17] 18 (boo b35) (fun w => ∃ H' : Hp, H25.le H' ∧ St w0 H0 w H' [.box b9 26 [(int 0), (int 200), (str []), u4, (str [])], .row u4 30 2 ([(⟨[67, 97, 99, 104, 101, 45, 67, 111, 110, 116, 114, 111, 108], [109, 97, 120, 45, 97, 103, 101, 61, 49]⟩ : GField)] : List GField).length, .box b1 24 [(str [71, 69, 84]), (str []), (int 0), (.slice none 0 0), (str [])]]) ?_ ?_
    · rcases boolE b24 with hb28 | hb28
      · replace hg29 := condT hg29 hb28
        refine WL.gyes rfl rfl hb28 ?_
        obtain ⟨r30, hr30, hg29⟩ := bindE hg29
        refine W.call S rfl (storable_Unsafe_ok S.holds [80, 79, 83, 84] hr30) ?_
        rintro v31 w32 H33 hle34 S rfl
        have R8 := Sl.mono R8 hle34
        refine WL.valw (R.pickT rfl hb28 rfl) ?_
        exact WL.nil ⟨(congrArg boo (Option.some.inj hg29)), (by repeat (first | refine agree_upd rfl ?_ | refine agree_upds' rfl ?_ | exact agree_refl)), ⟨H33, hle34, S⟩⟩
      · replace hg29 := condF hg29 hb28
        refine WL.gno rfl rfl hb28 ?_
        refine WL.valw (R.pickF rfl hb28 rfl) ?_
        exact WL.nil ⟨(congrArg boo (Option.some.inj hg29)), (by repeat (first | refine agree_upd rfl ?_ | refine agree_upds' rfl ?_ | exact agree_refl)), ⟨H25, (Hp.le.refl _), S⟩⟩
    · intro us w37 ⟨H36, hle38, S⟩
      have R8 := Sl.mono R8 hle38
      refine WL.valw (R.as (v := (boo b35)) rfl) ?_
      refine WL.nil ?_
      obtain rfl := Option.some.inj h
      refine WP.ret (Out.one rfl S rfl ?_)
      exact rfl
set_option maxRecDepth 10000 in
set_option maxHeartbeats 4000000 in
theorem law24_StorableNever_ok {w0 : World} {H0 : Hp} (hw : Holds w0 H0) (p_ppend : GRequest) (p_x1 : GResponse) (p_x2 : Int) (p_x3 : Int) {vp_ppend3 : Value} {vp_x13 : Value} (Rp_ppend3 : Sl (α := GField) H0 vp_ppend3 p_ppend.fFields) (Rp_x13 : Sl (α := GField) H0 vp_x13 p_x1.fFields) {r : Bool} (h : law24_StorableNever p_ppend p_x1 p_x2 p_x3 = some r) :
    Con Tryd.prog 3 [(agg [(str p_ppend.fMethod), (str p_ppend.fTarget), (int p_ppend.fMinor), vp_ppend3, (str p_ppend.fBody)]), (agg [(int p_x1.fMinor), (int p_x1.fStatus), (str p_x1.fReason), vp_x13, (str p_x1.fBody)]), (int p_x2), (int p_x3)] w0 H0 (fun H' v => v = (boo r)) := by
  refine Con.mk (N := 71) Tryd.func3 rfl rfl (by kernel_rfl) rfl ?_
  have S := St.start hw
  refine WP.seq ?_
  refine WP.region ?_
  refine W.box [(str p_ppend.fMethod), (str p_ppend.fTarget), (int p_ppend.fMinor), vp_ppend3, (str p_ppend.fBody)] S rfl rfl ?_
  intro b1 w2 S
  refine W.box [(int p_x1.fMinor), (int p_x1.fStatus), (str p_x1.fReason), vp_x13, (str p_x1.fBody)] S rfl rfl ?_
  intro b3 w4 S
  refine WL.valw (R.as (v := (boo false)) rfl) ?_
  refine WL.nil ?_
  refine WP.seq ?_
  refine WP.seq ?_
  refine WP.region ?_
  refine WL.valw (R.loadBN (i := 1) (vs := [(str p_ppend.fMethod), (str p_ppend.fTarget), (int p_ppend.fMinor), vp_ppend3, (str p_ppend.fBody)]) S rfl rfl lay24 rfl rfl) ?_
  obtain ⟨r5, hr5, h⟩ := bindE h
  refine W.call S rfl (keep_Request_ok S.holds p_ppend Rp_ppend3 hr5) ?_
  rintro v6 w7 H8 hle9 S rfl
  have Rp_ppend3 := Sl.mono Rp_ppend3 hle9
  have Rp_x13 := Sl.mono Rp_x13 hle9
  refine WL.valw (R.not rfl) ?_
  refine WL.valw (R.mv (v := (boo (!r5))) rfl) ?_
  obtain ⟨b17, hg11, h⟩ := bindE h
  refine WL.grpw 4 [15, 16, 17] 18 (boo b17) (fun w => ∃ H' : Hp, H8.le H' ∧ St w0 H0 w H' [.box b3 26 [(int p_x1.fMinor), (int p_x1.fStatus), (str p_x1.fReason), vp_x13, (str p_x1.fBody)], .box b1 24 [(str p_ppend.fMethod), (str p_ppend.fTarget), (int p_ppend.fMinor), vp_ppend3, (str p_ppend.fBody)]]) ?_ ?_
  · rcases boolE (!r5) with hb10 | hb10
    · replace hg11 := condT hg11 hb10
      refine WL.gno rfl rfl hb10 ?_
      refine WL.gno rfl rfl hb10 ?_
      refine WL.gno rfl rfl hb10 ?_
      refine WL.valw (R.pickT rfl hb10 rfl) ?_
      exact WL.nil ⟨(congrArg boo (Option.some.inj hg11)), (by repeat (first | refine agree_upd rfl ?_ | refine agree_upds' rfl ?_ | exact agree_refl)), ⟨H8, (Hp.le.refl _), S⟩⟩
    · replace hg11 := condF hg11 hb10
      refine WL.gyes rfl rfl hb10 ?_
      refine WL.valw (R.loadBN (i := 0) (vs := [(int p_x1.fMinor), (int p_x1.fStatus), (str p_x1.fReason), vp_x13, (str p_x1.fBody)]) S rfl rfl lay26 rfl rfl) ?_
      refine WL.gyes rfl rfl hb10 ?_
      obtain ⟨r12, hr12, hg11⟩ := bindE hg11
      refine W.call S rfl (keep_Response_ok S.holds p_x1 Rp_x13 hr12) ?_
      rintro v13 w14 H15 hle16 S rfl
      have Rp_ppend3 := Sl.mono Rp_ppend3 hle16
      have Rp_x13 := Sl.mono Rp_x13 hle16
      refine WL.gyes rfl rfl hb10 ?_
      refine WL.valw (R.not rfl) ?_
      refine WL.valw (R.pickF rfl hb10 rfl) ?_
      exact WL.nil ⟨(congrArg boo (Option.some.inj hg11)), (by repeat (first | refine agree_upd rfl ?_ | refine agree_upds' rfl ?_ | exact agree_refl)), ⟨H15, hle16, S⟩⟩
  · intro us w19 ⟨H18, hle20, S⟩
    have Rp_ppend3 := Sl.mono Rp_ppend3 hle20
    have Rp_x13 := Sl.mono Rp_x13 hle20
    refine WL.valw (R.mv (v := (boo b17)) rfl) ?_
    refine WL.grp 3 [20, 21] 22 (boo (b17 || (decide (p_x3 < 0)))) ?_ ?_
    · rcases boolE b17 with hb21 | hb21
      · refine WL.gno rfl rfl hb21 ?_
        refine WL.gno rfl rfl hb21 ?_
        refine WL.valw (R.pickT rfl hb21 rfl) ?_
        exact WL.nil ⟨(orT hb21), (by repeat (first | refine agree_upd rfl ?_ | refine agree_upds' rfl ?_ | exact agree_refl)), rfl⟩
      · refine WL.gyes rfl rfl hb21 ?_
        refine WL.valw (R.mv (v := (int p_x3)) rfl) ?_
        refine WL.gyes rfl rfl hb21 ?_
        refine WL.valw (R.lss rfl rfl) ?_
        refine WL.valw (R.pickF rfl hb21 rfl) ?_
        exact WL.nil ⟨(orF hb21), (by repeat (first | refine agree_upd rfl ?_ | refine agree_upds' rfl ?_ | exact agree_refl)), rfl⟩
    · intro us
      refine WL.valw (R.mv (v := (boo (b17 || (decide (p_x3 < 0))))) rfl) ?_
      refine WL.grp 6 [24, 25, 26, 27, 28] 29 (boo ((b17 || (decide (p_x3 < 0))) || (decide ((p_x1.fFields.length : Int) < p_x3)))) ?_ ?_
      · rcases boolE (b17 || (decide (p_x3 < 0))) with hb23 | hb23
        · refine WL.gno rfl rfl hb23 ?_
          refine WL.gno rfl rfl hb23 ?_
          refine WL.gno rfl rfl hb23 ?_
          refine WL.gno rfl rfl hb23 ?_
          refine WL.gno rfl rfl hb23 ?_
          refine WL.valw (R.pickT rfl hb23 rfl) ?_
          exact WL.nil ⟨(orT hb23), (by repeat (first | refine agree_upd rfl ?_ | refine agree_upds' rfl ?_ | exact agree_refl)), rfl⟩
        · refine WL.gyes rfl rfl hb23 ?_
          refine WL.valw (R.mv (v := (int p_x3)) rfl) ?_
          refine WL.gyes rfl rfl hb23 ?_
          refine WL.valw (R.fieldB rfl fld26_3) ?_
          refine WL.gyes rfl rfl hb23 ?_
          refine WL.valw (R.loadB (i := 0) (v := vp_x13) S rfl rfl lay22 rfl) ?_
          refine WL.gyes rfl rfl hb23 ?_
          refine WL.valw (R.lenL (α := GField) (xs := p_x1.fFields) (H := H18) Rp_x13 rfl Tryd.underlying22) ?_
          refine WL.gyes rfl rfl hb23 ?_
          refine WL.valw (R.gtr rfl rfl) ?_
          refine WL.valw (R.pickF rfl hb23 rfl) ?_
          exact WL.nil ⟨(orF hb23), (by repeat (first | refine agree_upd rfl ?_ | refine agree_upds' rfl ?_ | exact agree_refl)), rfl⟩
      · intro us
        refine WL.nil ?_
        rcases condE h with ⟨hc25, h⟩ | ⟨hc25, h⟩
        · refine WP.condT rfl hc25 ?_
          refine WP.seq ?_
          refine WP.region ?_
          refine WL.valw (R.as (v := (boo true)) rfl) ?_
          refine WL.nil ?_
          obtain rfl := Option.some.inj h
          refine WP.ret (Out.one rfl S rfl ?_)
          exact rfl
        · refine WP.condF rfl hc25 ?_
          refine WP.skip ?_
          refine WP.seq ?_
          refine WP.region ?_
          refine WL.valw (R.build [(0, (str [99, 97, 99, 104, 101, 45, 99, 111, 110, 116, 114, 111, 108])), (1, (str [78, 111, 45, 83, 116, 111, 114, 101]))] [(str [99, 97, 99, 104, 101, 45, 99, 111, 110, 116, 114, 111, 108]), (str [78, 111, 45, 83, 116, 111, 114, 101])] bp30 zer30 rfl rfl) ?_
          refine W.alloc [(str []), (str [])] S zer30 ?_
          intro b26 w27 S
          refine W.store (i := 0) [(str [99, 97, 99, 104, 101, 45, 99, 111, 110, 116, 114, 111, 108]), (str [78, 111, 45, 83, 116, 111, 114, 101])] S rfl rfl rfl lay30 rfl rfl (Nat.le_of_ble_eq_true rfl) rfl ?_
          intro w28 S
          refine WL.nil ?_
          refine WP.seq ?_
          refine WP.seq ?_
          refine WP.region ?_
          refine WL.valw (R.mv (v := (int p_x2)) rfl) ?_
          refine WL.valw (R.and rfl rfl) ?_
          refine WL.nil ?_
          obtain ⟨⟨m35, m36⟩, hj37, h⟩ := bindE h
          refine WP.cut (fun f w => ∃ (H29 : Hp), f 2 = (int p_x2) ∧ f 3 = (int p_x3) ∧ f 4 = (ptr b1 0) ∧ f 5 = (ptr b3 0) ∧ f 9 = (ptr b26 0) ∧ Sl (α := GField) H29 vp_x13 p_x1.fFields ∧ Sl (α := GField) H29 vp_ppend3 p_ppend.fFields ∧ St w0 H0 w H29 [.box b26 30 [(str m35), (str m36)], .box b3 26 [(int p_x1.fMinor), (int p_x1.fStatus), (str p_x1.fReason), vp_x13, (str p_x1.fBody)], .box b1 24 [(str p_ppend.fMethod), (str p_ppend.fTarget), (int p_ppend.fMinor), vp_ppend3, (str p_ppend.fBody)]]) ?_ ?_
          · refine WP.block ?_
            refine WP.seq ?_
            refine WP.region ?_
            refine WL.valw (R.eql rfl rfl) ?_
            refine WL.valw (R.as (v := (boo ((iand p_x2 3) == 1))) rfl) ?_
            refine WL.nil ?_
            rcases condE hj37 with ⟨hc39, hj37⟩ | ⟨hc39, hj37⟩
            · refine WP.condT rfl hc39 ?_
              refine WP.region ?_
              refine WL.valw (R.fieldB rfl fld30_1) ?_
              refine W.store (i := 0) [(str [99, 97, 99, 104, 101, 45, 99, 111, 110, 116, 114, 111, 108]), (str [120, 44, 32, 80, 114, 105, 118, 97, 116, 101, 61, 34, 97, 34])] S rfl rfl rfl lay9 rfl rfl (Nat.le_of_ble_eq_true rfl) rfl ?_
              intro w40 S
              refine WL.nil ?_
              cases Option.some.inj hj37
              exact ⟨H18, rfl, rfl, rfl, rfl, rfl, Rp_x13, Rp_ppend3, S⟩
            · refine WP.condF rfl hc39 ?_
              refine WP.seq ?_
              refine WP.region ?_
              refine WL.valw (R.eql rfl rfl) ?_
              refine WL.valw (R.as (v := (boo ((iand p_x2 3) == 2))) rfl) ?_
              refine WL.nil ?_
              rcases condE hj37 with ⟨hc41, hj37⟩ | ⟨hc41, hj37⟩
              · refine WP.condT rfl hc41 ?_
                refine WP.region ?_
                refine WL.valw (R.build [(0, (str [86, 65, 82, 89])), (1, (str [97, 44, 32, 42]))] [(str [86, 65, 82, 89]), (str [97, 44, 32, 42])] bp30 zer30 rfl rfl) ?_
                refine W.store (i := 0) [(str [86, 65, 82, 89]), (str [97, 44, 32, 42])] S rfl rfl rfl lay30 rfl rfl (Nat.le_of_ble_eq_true rfl) rfl ?_
                intro w42 S
                refine WL.nil ?_
                cases Option.some.inj hj37
                exact ⟨H18, rfl, rfl, rfl, rfl, rfl, Rp_x13, Rp_ppend3, S⟩
              · refine WP.condF rfl hc41 ?_
                refine WP.skip ?_
                cases Option.some.inj hj37
                exact ⟨H18, rfl, rfl, rfl, rfl, rfl, Rp_x13, Rp_ppend3, S⟩
          · rintro f w ⟨H29, h30, h31, h32, h33, h34, Rp_x13, Rp_ppend3, S⟩
            refine WP.seq ?_
            refine WP.seq ?_
            refine WP.region ?_
            refine WL.valw (R.mv (v := (int p_x2)) h30) ?_
            refine WL.valw (R.and rfl rfl) ?_
            refine WL.valw (R.eql rfl rfl) ?_
            refine WL.nil ?_
            obtain ⟨⟨m46, m49⟩, hj52, h⟩ := bindE h
            refine WP.cut (fun f w => ∃ (H43 : Hp) (v47 : Value) (v50 : Value), f 4 = (ptr b1 0) ∧ f 5 = (ptr b3 0) ∧ Sl (α := GField) H43 v47 m46 ∧ Sl (α := GField) H43 v50 m49 ∧ St w0 H0 w H43 [.box b3 26 [(int p_x1.fMinor), (int p_x1.fStatus), (str p_x1.fReason), v47, (str p_x1.fBody)], .box b1 24 [(str p_ppend.fMethod), (str p_ppend.fTarget), (int p_ppend.fMinor), v50, (str p_ppend.fBody)]]) ?_ ?_
            · rcases condE hj52 with ⟨hc54, hj52⟩ | ⟨hc54, hj52⟩
              · refine WP.condT rfl hc54 ?_
                refine WP.draw (by kernel_rfl) 8 rfl #[false, false, false, false, false, false, false, false] rfl ?_
                have S := S.drew
                refine WA.take (i := 0) #[true, false, false, false, false, false, false, false] rfl (by kernel_rfl) (by kernel_rfl) (by kernel_rfl) rfl (fun _ => (R.fieldB h32 fld24_3)) ?_
                refine WA.two (i := 1) (j := 3) #[true, true, false, false, false, false, false, false] #[true, false, false, true, false, false, false, false] rfl rfl (by kernel_rfl) rfl rfl ?_ ?_
                · refine WL.valw (R.loadB (i := 2) (v := vp_ppend3) S rfl rfl lay22 rfl) ?_
                  refine WL.nil ?_
                  refine WA.two (i := 2) (j := 3) #[true, true, true, false, false, false, false, false] #[true, true, false, true, false, false, false, false] rfl rfl (by kernel_rfl) rfl rfl ?_ ?_
                  · have S := S.addNil 30 2
                    obtain ⟨l55, hl55, hj52⟩ := bindE hj52
                    refine W.app (α := GField) (i := 0) S el22 rfl rfl rfl Sl.nil Rp_ppend3 hl55 ?_
                    intro v56 w57 H58 hle59 R60 S
                    have Rp_ppend3 := Sl.mono Rp_ppend3 hle59
                    have Rp_x13 := Sl.mono Rp_x13 hle59
                    refine WL.nil ?_
                    refine WA.one (i := 3) #[true, true, true, true, false, false, false, false] rfl (by kernel_rfl) rfl ?_
                    refine WL.valw (R.loadBN (i := 1) (vs := [(str m35), (str m36)]) S h34 rfl lay30 rfl rfl) ?_
                    refine WL.nil ?_
                    refine WA.one (i := 4) #[true, true, true, true, true, false, false, false] rfl (by kernel_rfl) rfl ?_
                    refine W.bslice (α := GField) [(agg [(str m35), (str m36)])] ([(⟨m35, m36⟩ : GField)] : List GField) S el22 rfl rfl rfl (by decide) (Go.Eng.encS ⟨rfl, rfl⟩ enc0) ?_
                    intro u61 w62 H63 hle64 R65 S
                    have Rp_ppend3 := Sl.mono Rp_ppend3 hle64
                    have R60 := Sl.mono R60 hle64
                    have Rp_x13 := Sl.mono Rp_x13 hle64
                    refine WL.nil ?_
                    refine WA.one (i := 5) #[true, true, true, true, true, true, false, false] rfl (by kernel_rfl) rfl ?_
                    obtain ⟨l66, hl66, hj52⟩ := bindE hj52
                    refine W.app (α := GField) (i := 1) S el22 rfl rfl rfl R60 R65 hl66 ?_
                    intro v67 w68 H69 hle70 R71 S
                    have Rp_ppend3 := Sl.mono Rp_ppend3 hle70
                    have R60 := Sl.mono R60 hle70
                    have R65 := Sl.mono R65 hle70
                    have Rp_x13 := Sl.mono Rp_x13 hle70
                    refine WL.nil ?_
                    refine WA.take (i := 6) #[true, true, true, true, true, true, true, false] rfl (by kernel_rfl) (by kernel_rfl) (by kernel_rfl) rfl (fun _ => (R.fieldB h32 fld24_3)) ?_
                    refine WA.one (i := 7) #[true, true, true, true, true, true, true, true] rfl (by kernel_rfl) rfl ?_
                    refine W.storeSl (α := GField) (i := 4) [(str p_ppend.fMethod), (str p_ppend.fTarget), (int p_ppend.fMinor), v67, (str p_ppend.fBody)] S R71 rfl rfl rfl lay22 (Nat.le_of_ble_eq_true rfl) rfl ?_
                    intro w72 S
                    refine WL.nil ?_
                    refine WA.done (by kernel_rfl) ?_
                    cases Option.some.inj hj52
                    exact ⟨H69, vp_x13, v67, h32, h33, Rp_x13, R71, (S.drop _ (.cons _ (.cons _ (.cons _ (.cons_cons _ (.cons_cons _ .slnil))))))⟩
                  · refine WL.valw (R.loadBN (i := 0) (vs := [(str m35), (str m36)]) S h34 rfl lay30 rfl rfl) ?_
                    refine WL.nil ?_
                    refine WA.two (i := 2) (j := 4) #[true, true, true, true, false, false, false, false] #[true, true, false, true, true, false, false, false] rfl rfl (by kernel_rfl) rfl rfl ?_ ?_
                    · have S := S.addNil 30 2
                      obtain ⟨l55, hl55, hj52⟩ := bindE hj52
                      refine W.app (α := GField) (i := 0) S el22 rfl rfl rfl Sl.nil Rp_ppend3 hl55 ?_
                      intro v56 w57 H58 hle59 R60 S
                      have Rp_ppend3 := Sl.mono Rp_ppend3 hle59
                      have Rp_x13 := Sl.mono Rp_x13 hle59
                      refine WL.nil ?_
                      refine WA.one (i := 4) #[true, true, true, true, true, false, false, false] rfl (by kernel_rfl) rfl ?_
                      refine W.bslice (α := GField) [(agg [(str m35), (str m36)])] ([(⟨m35, m36⟩ : GField)] : List GField) S el22 rfl rfl rfl (by decide) (Go.Eng.encS ⟨rfl, rfl⟩ enc0) ?_
                      intro u61 w62 H63 hle64 R65 S
                      have Rp_ppend3 := Sl.mono Rp_ppend3 hle64
                      have R60 := Sl.mono R60 hle64
                      have Rp_x13 := Sl.mono Rp_x13 hle64
                      refine WL.nil ?_
                      refine WA.one (i := 5) #[true, true, true, true, true, true, false, false] rfl (by kernel_rfl) rfl ?_
                      obtain ⟨l66, hl66, hj52⟩ := bindE hj52
                      refine W.app (α := GField) (i := 1) S el22 rfl rfl rfl R60 R65 hl66 ?_
                      intro v67 w68 H69 hle70 R71 S
                      have Rp_ppend3 := Sl.mono Rp_ppend3 hle70
                      have R60 := Sl.mono R60 hle70
                      have R65 := Sl.mono R65 hle70
                      have Rp_x13 := Sl.mono Rp_x13 hle70
                      refine WL.nil ?_
                      refine WA.take (i := 6) #[true, true, true, true, true, true, true, false] rfl (by kernel_rfl) (by kernel_rfl) (by kernel_rfl) rfl (fun _ => (R.fieldB h32 fld24_3)) ?_
                      refine WA.one (i := 7) #[true, true, true, true, true, true, true, true] rfl (by kernel_rfl) rfl ?_
                      refine W.storeSl (α := GField) (i := 4) [(str p_ppend.fMethod), (str p_ppend.fTarget), (int p_ppend.fMinor), v67, (str p_ppend.fBody)] S R71 rfl rfl rfl lay22 (Nat.le_of_ble_eq_true rfl) rfl ?_
                      intro w72 S
                      refine WL.nil ?_
                      refine WA.done (by kernel_rfl) ?_
                      cases Option.some.inj hj52
                      exact ⟨H69, vp_x13, v67, h32, h33, Rp_x13, R71, (S.drop _ (.cons _ (.cons _ (.cons _ (.cons_cons _ (.cons_cons _ .slnil))))))⟩
                    · refine W.bslice (α := GField) [(agg [(str m35), (str m36)])] ([(⟨m35, m36⟩ : GField)] : List GField) S el22 rfl rfl rfl (by decide) (Go.Eng.encS ⟨rfl, rfl⟩ enc0) ?_
                      intro u55 w56 H57 hle58 R59 S
                      have Rp_ppend3 := Sl.mono Rp_ppend3 hle58
                      have Rp_x13 := Sl.mono Rp_x13 hle58
                      refine WL.nil ?_
                      refine WA.one (i := 2) #[true, true, true, true, true, false, false, false] rfl (by kernel_rfl) rfl ?_
                      have S := S.addNil 30 2
                      obtain ⟨l60, hl60, hj52⟩ := bindE hj52
                      refine W.app (α := GField) (i := 0) S el22 rfl rfl rfl Sl.nil Rp_ppend3 hl60 ?_
                      intro v61 w62 H63 hle64 R65 S
                      have Rp_ppend3 := Sl.mono Rp_ppend3 hle64
                      have R59 := Sl.mono R59 hle64
                      have Rp_x13 := Sl.mono Rp_x13 hle64
                      refine WL.nil ?_
                      refine WA.one (i := 5) #[true, true, true, true, true, true, false, false] rfl (by kernel_rfl) rfl ?_
                      obtain ⟨l66, hl66, hj52⟩ := bindE hj52
                      refine W.app (α := GField) (i := 0) S el22 rfl rfl rfl R65 R59 hl66 ?_
                      intro v67 w68 H69 hle70 R71 S
                      have Rp_ppend3 := Sl.mono Rp_ppend3 hle70
                      have R59 := Sl.mono R59 hle70
                      have R65 := Sl.mono R65 hle70
                      have Rp_x13 := Sl.mono Rp_x13 hle70
                      refine WL.nil ?_
                      refine WA.take (i := 6) #[true, true, true, true, true, true, true, false] rfl (by kernel_rfl) (by kernel_rfl) (by kernel_rfl) rfl (fun _ => (R.fieldB h32 fld24_3)) ?_
                      refine WA.one (i := 7) #[true, true, true, true, true, true, true, true] rfl (by kernel_rfl) rfl ?_
                      refine W.storeSl (α := GField) (i := 4) [(str p_ppend.fMethod), (str p_ppend.fTarget), (int p_ppend.fMinor), v67, (str p_ppend.fBody)] S R71 rfl rfl rfl lay22 (Nat.le_of_ble_eq_true rfl) rfl ?_
                      intro w72 S
                      refine WL.nil ?_
                      refine WA.done (by kernel_rfl) ?_
                      cases Option.some.inj hj52
                      exact ⟨H69, vp_x13, v67, h32, h33, Rp_x13, R71, (S.drop _ (.cons _ (.cons _ (.cons _ (.cons_cons _ (.cons_cons _ .slnil))))))⟩
                · refine WL.valw (R.loadBN (i := 0) (vs := [(str m35), (str m36)]) S h34 rfl lay30 rfl rfl) ?_
                  refine WL.nil ?_
                  refine WA.two (i := 1) (j := 4) #[true, true, false, true, false, false, false, false] #[true, false, false, true, true, false, false, false] rfl rfl (by kernel_rfl) rfl rfl ?_ ?_
                  · refine WL.valw (R.loadB (i := 2) (v := vp_ppend3) S rfl rfl lay22 rfl) ?_
                    refine WL.nil ?_
                    refine WA.two (i := 2) (j := 4) #[true, true, true, true, false, false, false, false] #[true, true, false, true, true, false, false, false] rfl rfl (by kernel_rfl) rfl rfl ?_ ?_
                    · have S := S.addNil 30 2
                      obtain ⟨l55, hl55, hj52⟩ := bindE hj52
                      refine W.app (α := GField) (i := 0) S el22 rfl rfl rfl Sl.nil Rp_ppend3 hl55 ?_
                      intro v56 w57 H58 hle59 R60 S
                      have Rp_ppend3 := Sl.mono Rp_ppend3 hle59
                      have Rp_x13 := Sl.mono Rp_x13 hle59
                      refine WL.nil ?_
                      refine WA.one (i := 4) #[true, true, true, true, true, false, false, false] rfl (by kernel_rfl) rfl ?_
                      refine W.bslice (α := GField) [(agg [(str m35), (str m36)])] ([(⟨m35, m36⟩ : GField)] : List GField) S el22 rfl rfl rfl (by decide) (Go.Eng.encS ⟨rfl, rfl⟩ enc0) ?_
                      intro u61 w62 H63 hle64 R65 S
                      have Rp_ppend3 := Sl.mono Rp_ppend3 hle64
                      have R60 := Sl.mono R60 hle64
                      have Rp_x13 := Sl.mono Rp_x13 hle64
                      refine WL.nil ?_
                      refine WA.one (i := 5) #[true, true, true, true, true, true, false, false] rfl (by kernel_rfl) rfl ?_
                      obtain ⟨l66, hl66, hj52⟩ := bindE hj52
                      refine W.app (α := GField) (i := 1) S el22 rfl rfl rfl R60 R65 hl66 ?_
                      intro v67 w68 H69 hle70 R71 S
                      have Rp_ppend3 := Sl.mono Rp_ppend3 hle70
                      have R60 := Sl.mono R60 hle70
                      have R65 := Sl.mono R65 hle70
                      have Rp_x13 := Sl.mono Rp_x13 hle70
                      refine WL.nil ?_
                      refine WA.take (i := 6) #[true, true, true, true, true, true, true, false] rfl (by kernel_rfl) (by kernel_rfl) (by kernel_rfl) rfl (fun _ => (R.fieldB h32 fld24_3)) ?_
                      refine WA.one (i := 7) #[true, true, true, true, true, true, true, true] rfl (by kernel_rfl) rfl ?_
                      refine W.storeSl (α := GField) (i := 4) [(str p_ppend.fMethod), (str p_ppend.fTarget), (int p_ppend.fMinor), v67, (str p_ppend.fBody)] S R71 rfl rfl rfl lay22 (Nat.le_of_ble_eq_true rfl) rfl ?_
                      intro w72 S
                      refine WL.nil ?_
                      refine WA.done (by kernel_rfl) ?_
                      cases Option.some.inj hj52
                      exact ⟨H69, vp_x13, v67, h32, h33, Rp_x13, R71, (S.drop _ (.cons _ (.cons _ (.cons _ (.cons_cons _ (.cons_cons _ .slnil))))))⟩
                    · refine W.bslice (α := GField) [(agg [(str m35), (str m36)])] ([(⟨m35, m36⟩ : GField)] : List GField) S el22 rfl rfl rfl (by decide) (Go.Eng.encS ⟨rfl, rfl⟩ enc0) ?_
                      intro u55 w56 H57 hle58 R59 S
                      have Rp_ppend3 := Sl.mono Rp_ppend3 hle58
                      have Rp_x13 := Sl.mono Rp_x13 hle58
                      refine WL.nil ?_
                      refine WA.one (i := 2) #[true, true, true, true, true, false, false, false] rfl (by kernel_rfl) rfl ?_
                      have S := S.addNil 30 2
                      obtain ⟨l60, hl60, hj52⟩ := bindE hj52
                      refine W.app (α := GField) (i := 0) S el22 rfl rfl rfl Sl.nil Rp_ppend3 hl60 ?_
                      intro v61 w62 H63 hle64 R65 S
                      have Rp_ppend3 := Sl.mono Rp_ppend3 hle64
                      have R59 := Sl.mono R59 hle64
                      have Rp_x13 := Sl.mono Rp_x13 hle64
                      refine WL.nil ?_
                      refine WA.one (i := 5) #[true, true, true, true, true, true, false, false] rfl (by kernel_rfl) rfl ?_
                      obtain ⟨l66, hl66, hj52⟩ := bindE hj52
                      refine W.app (α := GField) (i := 0) S el22 rfl rfl rfl R65 R59 hl66 ?_
                      intro v67 w68 H69 hle70 R71 S
                      have Rp_ppend3 := Sl.mono Rp_ppend3 hle70
                      have R59 := Sl.mono R59 hle70
                      have R65 := Sl.mono R65 hle70
                      have Rp_x13 := Sl.mono Rp_x13 hle70
                      refine WL.nil ?_
                      refine WA.take (i := 6) #[true, true, true, true, true, true, true, false] rfl (by kernel_rfl) (by kernel_rfl) (by kernel_rfl) rfl (fun _ => (R.fieldB h32 fld24_3)) ?_
                      refine WA.one (i := 7) #[true, true, true, true, true, true, true, true] rfl (by kernel_rfl) rfl ?_
                      refine W.storeSl (α := GField) (i := 4) [(str p_ppend.fMethod), (str p_ppend.fTarget), (int p_ppend.fMinor), v67, (str p_ppend.fBody)] S R71 rfl rfl rfl lay22 (Nat.le_of_ble_eq_true rfl) rfl ?_
                      intro w72 S
                      refine WL.nil ?_
                      refine WA.done (by kernel_rfl) ?_
                      cases Option.some.inj hj52
                      exact ⟨H69, vp_x13, v67, h32, h33, Rp_x13, R71, (S.drop _ (.cons _ (.cons _ (.cons _ (.cons_cons _ (.cons_cons _ .slnil))))))⟩
                  · refine W.bslice (α := GField) [(agg [(str m35), (str m36)])] ([(⟨m35, m36⟩ : GField)] : List GField) S el22 rfl rfl rfl (by decide) (Go.Eng.encS ⟨rfl, rfl⟩ enc0) ?_
                    intro u55 w56 H57 hle58 R59 S
                    have Rp_x13 := Sl.mono Rp_x13 hle58
                    have Rp_ppend3 := Sl.mono Rp_ppend3 hle58
                    refine WL.nil ?_
                    refine WA.one (i := 1) #[true, true, false, true, true, false, false, false] rfl (by kernel_rfl) rfl ?_
                    refine WL.valw (R.loadB (i := 3) (v := vp_ppend3) S rfl rfl lay22 rfl) ?_
                    refine WL.nil ?_
                    refine WA.one (i := 2) #[true, true, true, true, true, false, false, false] rfl (by kernel_rfl) rfl ?_
                    have S := S.addNil 30 2
                    obtain ⟨l60, hl60, hj52⟩ := bindE hj52
                    refine W.app (α := GField) (i := 0) S el22 rfl rfl rfl Sl.nil Rp_ppend3 hl60 ?_
                    intro v61 w62 H63 hle64 R65 S
                    have R59 := Sl.mono R59 hle64
                    have Rp_ppend3 := Sl.mono Rp_ppend3 hle64
                    have Rp_x13 := Sl.mono Rp_x13 hle64
                    refine WL.nil ?_
                    refine WA.one (i := 5) #[true, true, true, true, true, true, false, false] rfl (by kernel_rfl) rfl ?_
                    obtain ⟨l66, hl66, hj52⟩ := bindE hj52
                    refine W.app (α := GField) (i := 0) S el22 rfl rfl rfl R65 R59 hl66 ?_
                    intro v67 w68 H69 hle70 R71 S
                    have R59 := Sl.mono R59 hle70
                    have Rp_ppend3 := Sl.mono Rp_ppend3 hle70
                    have R65 := Sl.mono R65 hle70
                    have Rp_x13 := Sl.mono Rp_x13 hle70
                    refine WL.nil ?_
                    refine WA.take (i := 6) #[true, true, true, true, true, true, true, false] rfl (by kernel_rfl) (by kernel_rfl) (by kernel_rfl) rfl (fun _ => (R.fieldB h32 fld24_3)) ?_
                    refine WA.one (i := 7) #[true, true, true, true, true, true, true, true] rfl (by kernel_rfl) rfl ?_
                    refine W.storeSl (α := GField) (i := 4) [(str p_ppend.fMethod), (str p_ppend.fTarget), (int p_ppend.fMinor), v67, (str p_ppend.fBody)] S R71 rfl rfl rfl lay22 (Nat.le_of_ble_eq_true rfl) rfl ?_
                    intro w72 S
                    refine WL.nil ?_
                    refine WA.done (by kernel_rfl) ?_
                    cases Option.some.inj hj52
                    exact ⟨H69, vp_x13, v67, h32, h33, Rp_x13, R71, (S.drop _ (.cons _ (.cons _ (.cons _ (.cons_cons _ (.cons_cons _ .slnil))))))⟩
              · refine WP.condF rfl hc54 ?_
                refine WP.seq ?_
                refine WP.draw (by kernel_rfl) 9 rfl #[false, false, false, false, false, false, false, false, false] rfl ?_
                have S := S.drew
                refine WA.take (i := 0) #[true, false, false, false, false, false, false, false, false] rfl (by kernel_rfl) (by kernel_rfl) (by kernel_rfl) rfl (fun _ => (R.fieldB h33 fld26_3)) ?_
                refine WA.take (i := 2) #[true, false, true, false, false, false, false, false, false] rfl (by kernel_rfl) (by kernel_rfl) (by kernel_rfl) rfl (fun _ => (R.mv (v := (int p_x3)) h31)) ?_
                refine WA.two (i := 1) (j := 5) #[true, true, true, false, false, false, false, false, false] #[true, false, true, false, false, true, false, false, false] rfl rfl (by kernel_rfl) rfl rfl ?_ ?_
                · refine WL.valw (R.loadB (i := 1) (v := vp_x13) S rfl rfl lay22 rfl) ?_
                  refine WL.nil ?_
                  obtain ⟨l73, hl73, hj52⟩ := bindE hj52
                  refine WA.subHi (k := 3) #[true, true, true, true, false, false, false, false, false] rfl (by kernel_rfl) (by kernel_rfl) (by kernel_rfl) rfl (α := GField) Rp_x13 rfl rfl el22 hl73 ?_
                  intro v74 R75
                  refine WA.two (i := 4) (j := 5) #[true, true, true, true, true, false, false, false, false] #[true, true, true, true, false, true, false, false, false] rfl rfl (by kernel_rfl) rfl rfl ?_ ?_
                  · have S := S.addNil 30 2
                    obtain ⟨l76, hl76, hj52⟩ := bindE hj52
                    refine W.app (α := GField) (i := 0) S el22 rfl rfl rfl Sl.nil R75 hl76 ?_
                    intro v77 w78 H79 hle80 R81 S
                    have Rp_x13 := Sl.mono Rp_x13 hle80
                    have R75 := Sl.mono R75 hle80
                    have Rp_ppend3 := Sl.mono Rp_ppend3 hle80
                    refine WL.nil ?_
                    refine WA.one (i := 5) #[true, true, true, true, true, true, false, false, false] rfl (by kernel_rfl) rfl ?_
                    refine WL.valw (R.loadBN (i := 1) (vs := [(str m35), (str m36)]) S h34 rfl lay30 rfl rfl) ?_
                    refine WL.nil ?_
                    refine WA.one (i := 6) #[true, true, true, true, true, true, true, false, false] rfl (by kernel_rfl) rfl ?_
                    refine W.bslice (α := GField) [(agg [(str m35), (str m36)])] ([(⟨m35, m36⟩ : GField)] : List GField) S el22 rfl rfl rfl (by decide) (Go.Eng.encS ⟨rfl, rfl⟩ enc0) ?_
                    intro u82 w83 H84 hle85 R86 S
                    have Rp_x13 := Sl.mono Rp_x13 hle85
                    have R75 := Sl.mono R75 hle85
                    have R81 := Sl.mono R81 hle85
                    have Rp_ppend3 := Sl.mono Rp_ppend3 hle85
                    refine WL.nil ?_
                    refine WA.one (i := 7) #[true, true, true, true, true, true, true, true, false] rfl (by kernel_rfl) rfl ?_
                    obtain ⟨l87, hl87, hj52⟩ := bindE hj52
                    refine W.app (α := GField) (i := 1) S el22 rfl rfl rfl R81 R86 hl87 ?_
                    intro v88 w89 H90 hle91 R92 S
                    have Rp_x13 := Sl.mono Rp_x13 hle91
                    have R75 := Sl.mono R75 hle91
                    have R81 := Sl.mono R81 hle91
                    have R86 := Sl.mono R86 hle91
                    have Rp_ppend3 := Sl.mono Rp_ppend3 hle91
                    refine WL.nil ?_
                    refine WA.take (i := 8) #[true, true, true, true, true, true, true, true, true] rfl (by kernel_rfl) (by kernel_rfl) (by kernel_rfl) rfl (fun _ => (R.as (v := v88) rfl)) ?_
                    refine WA.done (by kernel_rfl) ?_
                    refine WP.region ?_
                    refine WL.valw (R.mv (v := v88) rfl) ?_
                    refine WL.valw (R.fieldB h33 fld26_3) ?_
                    refine WL.valw (R.loadB (i := 3) (v := vp_x13) S rfl rfl lay22 rfl) ?_
                    refine WL.valw (R.mv (v := (int p_x3)) h31) ?_
                    obtain ⟨l93, hl93, hj52⟩ := bindE hj52
                    refine W.subLo (α := GField) Rp_x13 rfl rfl el22 hl93 ?_
                    intro v94 R95
                    obtain ⟨l96, hl96, hj52⟩ := bindE hj52
                    refine W.app (α := GField) (i := 1) S el22 rfl rfl rfl R92 R95 hl96 ?_
                    intro v97 w98 H99 hle100 R101 S
                    have Rp_x13 := Sl.mono Rp_x13 hle100
                    have R75 := Sl.mono R75 hle100
                    have R81 := Sl.mono R81 hle100
                    have R86 := Sl.mono R86 hle100
                    have R92 := Sl.mono R92 hle100
                    have R95 := Sl.mono R95 hle100
                    have Rp_ppend3 := Sl.mono Rp_ppend3 hle100
                    refine WL.valw (R.fieldB h33 fld26_3) ?_
                    refine W.storeSl (α := GField) (i := 3) [(int p_x1.fMinor), (int p_x1.fStatus), (str p_x1.fReason), v97, (str p_x1.fBody)] S R101 rfl rfl rfl lay22 (Nat.le_of_ble_eq_true rfl) rfl ?_
                    intro w102 S
                    refine WL.nil ?_
                    cases Option.some.inj hj52
                    exact ⟨H99, v97, vp_ppend3, h32, h33, R101, Rp_ppend3, (S.drop _ (.cons _ (.cons _ (.cons _ (.cons_cons _ (.cons_cons _ .slnil))))))⟩
                  · refine WL.valw (R.loadBN (i := 0) (vs := [(str m35), (str m36)]) S h34 rfl lay30 rfl rfl) ?_
                    refine WL.nil ?_
                    refine WA.two (i := 4) (j := 6) #[true, true, true, true, true, true, false, false, false] #[true, true, true, true, false, true, true, false, false] rfl rfl (by kernel_rfl) rfl rfl ?_ ?_
                    · have S := S.addNil 30 2
                      obtain ⟨l76, hl76, hj52⟩ := bindE hj52
                      refine W.app (α := GField) (i := 0) S el22 rfl rfl rfl Sl.nil R75 hl76 ?_
                      intro v77 w78 H79 hle80 R81 S
                      have Rp_x13 := Sl.mono Rp_x13 hle80
                      have R75 := Sl.mono R75 hle80
                      have Rp_ppend3 := Sl.mono Rp_ppend3 hle80
                      refine WL.nil ?_
                      refine WA.one (i := 6) #[true, true, true, true, true, true, true, false, false] rfl (by kernel_rfl) rfl ?_
                      refine W.bslice (α := GField) [(agg [(str m35), (str m36)])] ([(⟨m35, m36⟩ : GField)] : List GField) S el22 rfl rfl rfl (by decide) (Go.Eng.encS ⟨rfl, rfl⟩ enc0) ?_
                      intro u82 w83 H84 hle85 R86 S
                      have Rp_x13 := Sl.mono Rp_x13 hle85
                      have R75 := Sl.mono R75 hle85
                      have R81 := Sl.mono R81 hle85
                      have Rp_ppend3 := Sl.mono Rp_ppend3 hle85
                      refine WL.nil ?_
                      refine WA.one (i := 7) #[true, true, true, true, true, true, true, true, false] rfl (by kernel_rfl) rfl ?_
                      obtain ⟨l87, hl87, hj52⟩ := bindE hj52
                      refine W.app (α := GField) (i := 1) S el22 rfl rfl rfl R81 R86 hl87 ?_
                      intro v88 w89 H90 hle91 R92 S
                      have Rp_x13 := Sl.mono Rp_x13 hle91
                      have R75 := Sl.mono R75 hle91
                      have R81 := Sl.mono R81 hle91
                      have R86 := Sl.mono R86 hle91
                      have Rp_ppend3 := Sl.mono Rp_ppend3 hle91
                      refine WL.nil ?_
                      refine WA.take (i := 8) #[true, true, true, true, true, true, true, true, true] rfl (by kernel_rfl) (by kernel_rfl) (by kernel_rfl) rfl (fun _ => (R.as (v := v88) rfl)) ?_
                      refine WA.done (by kernel_rfl) ?_
                      refine WP.region ?_
                      refine WL.valw (R.mv (v := v88) rfl) ?_
                      refine WL.valw (R.fieldB h33 fld26_3) ?_
                      refine WL.valw (R.loadB (i := 3) (v := vp_x13) S rfl rfl lay22 rfl) ?_
                      refine WL.valw (R.mv (v := (int p_x3)) h31) ?_
                      obtain ⟨l93, hl93, hj52⟩ := bindE hj52
                      refine W.subLo (α := GField) Rp_x13 rfl rfl el22 hl93 ?_
                      intro v94 R95
                      obtain ⟨l96, hl96, hj52⟩ := bindE hj52
                      refine W.app (α := GField) (i := 1) S el22 rfl rfl rfl R92 R95 hl96 ?_
                      intro v97 w98 H99 hle100 R101 S
                      have Rp_x13 := Sl.mono Rp_x13 hle100
                      have R75 := Sl.mono R75 hle100
                      have R81 := Sl.mono R81 hle100
                      have R86 := Sl.mono R86 hle100
                      have R92 := Sl.mono R92 hle100
                      have R95 := Sl.mono R95 hle100
                      have Rp_ppend3 := Sl.mono Rp_ppend3 hle100
                      refine WL.valw (R.fieldB h33 fld26_3) ?_
                      refine W.storeSl (α := GField) (i := 3) [(int p_x1.fMinor), (int p_x1.fStatus), (str p_x1.fReason), v97, (str p_x1.fBody)] S R101 rfl rfl rfl lay22 (Nat.le_of_ble_eq_true rfl) rfl ?_
                      intro w102 S
                      refine WL.nil ?_
                      cases Option.some.inj hj52
                      exact ⟨H99, v97, vp_ppend3, h32, h33, R101, Rp_ppend3, (S.drop _ (.cons _ (.cons _ (.cons _ (.cons_cons _ (.cons_cons _ .slnil))))))⟩
                    · refine W.bslice (α := GField) [(agg [(str m35), (str m36)])] ([(⟨m35, m36⟩ : GField)] : List GField) S el22 rfl rfl rfl (by decide) (Go.Eng.encS ⟨rfl, rfl⟩ enc0) ?_
                      intro u76 w77 H78 hle79 R80 S
                      have Rp_x13 := Sl.mono Rp_x13 hle79
                      have R75 := Sl.mono R75 hle79
                      have Rp_ppend3 := Sl.mono Rp_ppend3 hle79
                      refine WL.nil ?_
                      refine WA.one (i := 4) #[true, true, true, true, true, true, true, false, false] rfl (by kernel_rfl) rfl ?_
                      have S := S.addNil 30 2
                      obtain ⟨l81, hl81, hj52⟩ := bindE hj52
                      refine W.app (α := GField) (i := 0) S el22 rfl rfl rfl Sl.nil R75 hl81 ?_
                      intro v82 w83 H84 hle85 R86 S
                      have Rp_x13 := Sl.mono Rp_x13 hle85
                      have R75 := Sl.mono R75 hle85
                      have R80 := Sl.mono R80 hle85
                      have Rp_ppend3 := Sl.mono Rp_ppend3 hle85
                      refine WL.nil ?_
                      refine WA.one (i := 7) #[true, true, true, true, true, true, true, true, false] rfl (by kernel_rfl) rfl ?_
                      obtain ⟨l87, hl87, hj52⟩ := bindE hj52
                      refine W.app (α := GField) (i := 0) S el22 rfl rfl rfl R86 R80 hl87 ?_
                      intro v88 w89 H90 hle91 R92 S
                      have Rp_x13 := Sl.mono Rp_x13 hle91
                      have R75 := Sl.mono R75 hle91
                      have R80 := Sl.mono R80 hle91
                      have R86 := Sl.mono R86 hle91
                      have Rp_ppend3 := Sl.mono Rp_ppend3 hle91
                      refine WL.nil ?_
                      refine WA.take (i := 8) #[true, true, true, true, true, true, true, true, true] rfl (by kernel_rfl) (by kernel_rfl) (by kernel_rfl) rfl (fun _ => (R.as (v := v88) rfl)) ?_
                      refine WA.done (by kernel_rfl) ?_
                      refine WP.region ?_
                      refine WL.valw (R.mv (v := v88) rfl) ?_
                      refine WL.valw (R.fieldB h33 fld26_3) ?_
                      refine WL.valw (R.loadB (i := 3) (v := vp_x13) S rfl rfl lay22 rfl) ?_
                      refine WL.valw (R.mv (v := (int p_x3)) h31) ?_
                      obtain ⟨l93, hl93, hj52⟩ := bindE hj52
                      refine W.subLo (α := GField) Rp_x13 rfl rfl el22 hl93 ?_
                      intro v94 R95
                      obtain ⟨l96, hl96, hj52⟩ := bindE hj52
                      refine W.app (α := GField) (i := 0) S el22 rfl rfl rfl R92 R95 hl96 ?_
                      intro v97 w98 H99 hle100 R101 S
                      have Rp_x13 := Sl.mono Rp_x13 hle100
                      have R75 := Sl.mono R75 hle100
                      have R80 := Sl.mono R80 hle100
                      have R86 := Sl.mono R86 hle100
                      have R92 := Sl.mono R92 hle100
                      have R95 := Sl.mono R95 hle100
                      have Rp_ppend3 := Sl.mono Rp_ppend3 hle100
                      refine WL.valw (R.fieldB h33 fld26_3) ?_
                      refine W.storeSl (α := GField) (i := 3) [(int p_x1.fMinor), (int p_x1.fStatus), (str p_x1.fReason), v97, (str p_x1.fBody)] S R101 rfl rfl rfl lay22 (Nat.le_of_ble_eq_true rfl) rfl ?_
                      intro w102 S
                      refine WL.nil ?_
                      cases Option.some.inj hj52
                      exact ⟨H99, v97, vp_ppend3, h32, h33, R101, Rp_ppend3, (S.drop _ (.cons _ (.cons _ (.cons _ (.cons_cons _ (.cons_cons _ .slnil))))))⟩
                · refine WL.valw (R.loadBN (i := 0) (vs := [(str m35), (str m36)]) S h34 rfl lay30 rfl rfl) ?_
                  refine WL.nil ?_
                  refine WA.two (i := 1) (j := 6) #[true, true, true, false, false, true, false, false, false] #[true, false, true, false, false, true, true, false, false] rfl rfl (by kernel_rfl) rfl rfl ?_ ?_
                  · refine WL.valw (R.loadB (i := 1) (v := vp_x13) S rfl rfl lay22 rfl) ?_
                    refine WL.nil ?_
                    obtain ⟨l73, hl73, hj52⟩ := bindE hj52
                    refine WA.subHi (k := 3) #[true, true, true, true, false, true, false, false, false] rfl (by kernel_rfl) (by kernel_rfl) (by kernel_rfl) rfl (α := GField) Rp_x13 rfl rfl el22 hl73 ?_
                    intro v74 R75
                    refine WA.two (i := 4) (j := 6) #[true, true, true, true, true, true, false, false, false] #[true, true, true, true, false, true, true, false, false] rfl rfl (by kernel_rfl) rfl rfl ?_ ?_
                    · have S := S.addNil 30 2
                      obtain ⟨l76, hl76, hj52⟩ := bindE hj52
                      refine W.app (α := GField) (i := 0) S el22 rfl rfl rfl Sl.nil R75 hl76 ?_
                      intro v77 w78 H79 hle80 R81 S
                      have Rp_x13 := Sl.mono Rp_x13 hle80
                      have R75 := Sl.mono R75 hle80
                      have Rp_ppend3 := Sl.mono Rp_ppend3 hle80
                      refine WL.nil ?_
                      refine WA.one (i := 6) #[true, true, true, true, true, true, true, false, false] rfl (by kernel_rfl) rfl ?_
                      refine W.bslice (α := GField) [(agg [(str m35), (str m36)])] ([(⟨m35, m36⟩ : GField)] : List GField) S el22 rfl rfl rfl (by decide) (Go.Eng.encS ⟨rfl, rfl⟩ enc0) ?_
                      intro u82 w83 H84 hle85 R86 S
                      have Rp_x13 := Sl.mono Rp_x13 hle85
                      have R75 := Sl.mono R75 hle85
                      have R81 := Sl.mono R81 hle85
                      have Rp_ppend3 := Sl.mono Rp_ppend3 hle85
                      refine WL.nil ?_
                      refine WA.one (i := 7) #[true, true, true, true, true, true, true, true, false] rfl (by kernel_rfl) rfl ?_
                      obtain ⟨l87, hl87, hj52⟩ := bindE hj52
                      refine W.app (α := GField) (i := 1) S el22 rfl rfl rfl R81 R86 hl87 ?_
                      intro v88 w89 H90 hle91 R92 S
                      have Rp_x13 := Sl.mono Rp_x13 hle91
                      have R75 := Sl.mono R75 hle91
                      have R81 := Sl.mono R81 hle91
                      have R86 := Sl.mono R86 hle91
                      have Rp_ppend3 := Sl.mono Rp_ppend3 hle91
                      refine WL.nil ?_
                      refine WA.take (i := 8) #[true, true, true, true, true, true, true, true, true] rfl (by kernel_rfl) (by kernel_rfl) (by kernel_rfl) rfl (fun _ => (R.as (v := v88) rfl)) ?_
                      refine WA.done (by kernel_rfl) ?_
                      refine WP.region ?_
                      refine WL.valw (R.mv (v := v88) rfl) ?_
                      refine WL.valw (R.fieldB h33 fld26_3) ?_
                      refine WL.valw (R.loadB (i := 3) (v := vp_x13) S rfl rfl lay22 rfl) ?_
                      refine WL.valw (R.mv (v := (int p_x3)) h31) ?_
                      obtain ⟨l93, hl93, hj52⟩ := bindE hj52
                      refine W.subLo (α := GField) Rp_x13 rfl rfl el22 hl93 ?_
                      intro v94 R95
                      obtain ⟨l96, hl96, hj52⟩ := bindE hj52
                      refine W.app (α := GField) (i := 1) S el22 rfl rfl rfl R92 R95 hl96 ?_
                      intro v97 w98 H99 hle100 R101 S
                      have Rp_x13 := Sl.mono Rp_x13 hle100
                      have R75 := Sl.mono R75 hle100
                      have R81 := Sl.mono R81 hle100
                      have R86 := Sl.mono R86 hle100
                      have R92 := Sl.mono R92 hle100
                      have R95 := Sl.mono R95 hle100
                      have Rp_ppend3 := Sl.mono Rp_ppend3 hle100
                      refine WL.valw (R.fieldB h33 fld26_3) ?_
                      refine W.storeSl (α := GField) (i := 3) [(int p_x1.fMinor), (int p_x1.fStatus), (str p_x1.fReason), v97, (str p_x1.fBody)] S R101 rfl rfl rfl lay22 (Nat.le_of_ble_eq_true rfl) rfl ?_
                      intro w102 S
                      refine WL.nil ?_
                      cases Option.some.inj hj52
                      exact ⟨H99, v97, vp_ppend3, h32, h33, R101, Rp_ppend3, (S.drop _ (.cons _ (.cons _ (.cons _ (.cons_cons _ (.cons_cons _ .slnil))))))⟩
                    · refine W.bslice (α := GField) [(agg [(str m35), (str m36)])] ([(⟨m35, m36⟩ : GField)] : List GField) S el22 rfl rfl rfl (by decide) (Go.Eng.encS ⟨rfl, rfl⟩ enc0) ?_
                      intro u76 w77 H78 hle79 R80 S
                      have Rp_x13 := Sl.mono Rp_x13 hle79
                      have R75 := Sl.mono R75 hle79
                      have Rp_ppend3 := Sl.mono Rp_ppend3 hle79
                      refine WL.nil ?_
                      refine WA.one (i := 4) #[true, true, true, true, true, true, true, false, false] rfl (by kernel_rfl) rfl ?_
                      have S := S.addNil 30 2
                      obtain ⟨l81, hl81, hj52⟩ := bindE hj52
                      refine W.app (α := GField) (i := 0) S el22 rfl rfl rfl Sl.nil R75 hl81 ?_
                      intro v82 w83 H84 hle85 R86 S
                      have Rp_x13 := Sl.mono Rp_x13 hle85
                      have R75 := Sl.mono R75 hle85
                      have R80 := Sl.mono R80 hle85
                      have Rp_ppend3 := Sl.mono Rp_ppend3 hle85
                      refine WL.nil ?_
                      refine WA.one (i := 7) #[true, true, true, true, true, true, true, true, false] rfl (by kernel_rfl) rfl ?_
                      obtain ⟨l87, hl87, hj52⟩ := bindE hj52
                      refine W.app (α := GField) (i := 0) S el22 rfl rfl rfl R86 R80 hl87 ?_
                      intro v88 w89 H90 hle91 R92 S
                      have Rp_x13 := Sl.mono Rp_x13 hle91
                      have R75 := Sl.mono R75 hle91
                      have R80 := Sl.mono R80 hle91
                      have R86 := Sl.mono R86 hle91
                      have Rp_ppend3 := Sl.mono Rp_ppend3 hle91
                      refine WL.nil ?_
                      refine WA.take (i := 8) #[true, true, true, true, true, true, true, true, true] rfl (by kernel_rfl) (by kernel_rfl) (by kernel_rfl) rfl (fun _ => (R.as (v := v88) rfl)) ?_
                      refine WA.done (by kernel_rfl) ?_
                      refine WP.region ?_
                      refine WL.valw (R.mv (v := v88) rfl) ?_
                      refine WL.valw (R.fieldB h33 fld26_3) ?_
                      refine WL.valw (R.loadB (i := 3) (v := vp_x13) S rfl rfl lay22 rfl) ?_
                      refine WL.valw (R.mv (v := (int p_x3)) h31) ?_
                      obtain ⟨l93, hl93, hj52⟩ := bindE hj52
                      refine W.subLo (α := GField) Rp_x13 rfl rfl el22 hl93 ?_
                      intro v94 R95
                      obtain ⟨l96, hl96, hj52⟩ := bindE hj52
                      refine W.app (α := GField) (i := 0) S el22 rfl rfl rfl R92 R95 hl96 ?_
                      intro v97 w98 H99 hle100 R101 S
                      have Rp_x13 := Sl.mono Rp_x13 hle100
                      have R75 := Sl.mono R75 hle100
                      have R80 := Sl.mono R80 hle100
                      have R86 := Sl.mono R86 hle100
                      have R92 := Sl.mono R92 hle100
                      have R95 := Sl.mono R95 hle100
                      have Rp_ppend3 := Sl.mono Rp_ppend3 hle100
                      refine WL.valw (R.fieldB h33 fld26_3) ?_
                      refine W.storeSl (α := GField) (i := 3) [(int p_x1.fMinor), (int p_x1.fStatus), (str p_x1.fReason), v97, (str p_x1.fBody)] S R101 rfl rfl rfl lay22 (Nat.le_of_ble_eq_true rfl) rfl ?_
                      intro w102 S
                      refine WL.nil ?_
                      cases Option.some.inj hj52
                      exact ⟨H99, v97, vp_ppend3, h32, h33, R101, Rp_ppend3, (S.drop _ (.cons _ (.cons _ (.cons _ (.cons_cons _ (.cons_cons _ .slnil))))))⟩
                  · refine W.bslice (α := GField) [(agg [(str m35), (str m36)])] ([(⟨m35, m36⟩ : GField)] : List GField) S el22 rfl rfl rfl (by decide) (Go.Eng.encS ⟨rfl, rfl⟩ enc0) ?_
                    intro u73 w74 H75 hle76 R77 S
                    have Rp_x13 := Sl.mono Rp_x13 hle76
                    have Rp_ppend3 := Sl.mono Rp_ppend3 hle76
                    refine WL.nil ?_
                    refine WA.one (i := 1) #[true, true, true, false, false, true, true, false, false] rfl (by kernel_rfl) rfl ?_
                    refine WL.valw (R.loadB (i := 2) (v := vp_x13) S rfl rfl lay22 rfl) ?_
                    refine WL.nil ?_
                    obtain ⟨l78, hl78, hj52⟩ := bindE hj52
                    refine WA.subHi (k := 3) #[true, true, true, true, false, true, true, false, false] rfl (by kernel_rfl) (by kernel_rfl) (by kernel_rfl) rfl (α := GField) Rp_x13 rfl rfl el22 hl78 ?_
                    intro v79 R80
                    refine WA.one (i := 4) #[true, true, true, true, true, true, true, false, false] rfl (by kernel_rfl) rfl ?_
                    have S := S.addNil 30 2
                    obtain ⟨l81, hl81, hj52⟩ := bindE hj52
                    refine W.app (α := GField) (i := 0) S el22 rfl rfl rfl Sl.nil R80 hl81 ?_
                    intro v82 w83 H84 hle85 R86 S
                    have R77 := Sl.mono R77 hle85
                    have Rp_x13 := Sl.mono Rp_x13 hle85
                    have R80 := Sl.mono R80 hle85
                    have Rp_ppend3 := Sl.mono Rp_ppend3 hle85
                    refine WL.nil ?_
                    refine WA.one (i := 7) #[true, true, true, true, true, true, true, true, false] rfl (by kernel_rfl) rfl ?_
                    obtain ⟨l87, hl87, hj52⟩ := bindE hj52
                    refine W.app (α := GField) (i := 0) S el22 rfl rfl rfl R86 R77 hl87 ?_
                    intro v88 w89 H90 hle91 R92 S
                    have R77 := Sl.mono R77 hle91
                    have Rp_x13 := Sl.mono Rp_x13 hle91
                    have R80 := Sl.mono R80 hle91
                    have R86 := Sl.mono R86 hle91
                    have Rp_ppend3 := Sl.mono Rp_ppend3 hle91
                    refine WL.nil ?_
                    refine WA.take (i := 8) #[true, true, true, true, true, true, true, true, true] rfl (by kernel_rfl) (by kernel_rfl) (by kernel_rfl) rfl (fun _ => (R.as (v := v88) rfl)) ?_
                    refine WA.done (by kernel_rfl) ?_
                    refine WP.region ?_
                    refine WL.valw (R.mv (v := v88) rfl) ?_
                    refine WL.valw (R.fieldB h33 fld26_3) ?_
                    refine WL.valw (R.loadB (i := 3) (v := vp_x13) S rfl rfl lay22 rfl) ?_
                    refine WL.valw (R.mv (v := (int p_x3)) h31) ?_
                    obtain ⟨l93, hl93, hj52⟩ := bindE hj52
                    refine W.subLo (α := GField) Rp_x13 rfl rfl el22 hl93 ?_
                    intro v94 R95
                    obtain ⟨l96, hl96, hj52⟩ := bindE hj52
                    refine W.app (α := GField) (i := 0) S el22 rfl rfl rfl R92 R95 hl96 ?_
                    intro v97 w98 H99 hle100 R101 S
                    have R77 := Sl.mono R77 hle100
                    have Rp_x13 := Sl.mono Rp_x13 hle100
                    have R80 := Sl.mono R80 hle100
                    have R86 := Sl.mono R86 hle100
                    have R92 := Sl.mono R92 hle100
                    have R95 := Sl.mono R95 hle100
                    have Rp_ppend3 := Sl.mono Rp_ppend3 hle100
                    refine WL.valw (R.fieldB h33 fld26_3) ?_
                    refine W.storeSl (α := GField) (i := 3) [(int p_x1.fMinor), (int p_x1.fStatus), (str p_x1.fReason), v97, (str p_x1.fBody)] S R101 rfl rfl rfl lay22 (Nat.le_of_ble_eq_true rfl) rfl ?_
                    intro w102 S
                    refine WL.nil ?_
                    cases Option.some.inj hj52
                    exact ⟨H99, v97, vp_ppend3, h32, h33, R101, Rp_ppend3, (S.drop _ (.cons _ (.cons _ (.cons _ (.cons_cons _ (.cons_cons _ .slnil))))))⟩
            · rintro f w ⟨H43, v47, v50, h44, h45, R48, R51, S⟩
              refine WP.seq ?_
              refine WP.region ?_
              refine WL.valw (R.loadBN (i := 1) (vs := [(str p_ppend.fMethod), (str p_ppend.fTarget), (int p_ppend.fMinor), v50, (str p_ppend.fBody)]) S h44 rfl lay24 rfl rfl) ?_
              refine WL.valw (R.loadBN (i := 0) (vs := [(int p_x1.fMinor), (int p_x1.fStatus), (str p_x1.fReason), v47, (str p_x1.fBody)]) S h45 rfl lay26 rfl rfl) ?_
              obtain ⟨r103, hr103, h⟩ := bindE h
              refine W.call S rfl (storable_Storable_ok S.holds (⟨p_ppend.fMethod, p_ppend.fTarget, p_ppend.fMinor, m49, p_ppend.fBody⟩ : GRequest) (⟨p_x1.fMinor, p_x1.fStatus, p_x1.fReason, m46, p_x1.fBody⟩ : GResponse) R51 R48 hr103) ?_
              rintro v104 w105 H106 hle107 S rfl
              have R51 := Sl.mono R51 hle107
              have R48 := Sl.mono R48 hle107
              refine WL.valw (R.not rfl) ?_
              refine WL.valw (R.mv (v := (boo (!r103))) rfl) ?_
              obtain ⟨b115, hg109, h⟩ := bindE h
              refine WL.grpw 2 [69] 70 (boo b115) (fun w => ∃ H' : Hp, H106.le H' ∧ St w0 H0 w H' [.box b3 26 [(int p_x1.fMinor), (int p_x1.fStatus), (str p_x1.fReason), v47, (str p_x1.fBody)], .box b1 24 [(str p_ppend.fMethod), (str p_ppend.fTarget), (int p_ppend.fMinor), v50, (str p_ppend.fBody)]]) ?_ ?_
              · rcases boolE (!r103) with hb108 | hb108
                · replace hg109 := condT hg109 hb108
                  refine WL.gyes rfl rfl hb108 ?_
                  obtain ⟨r110, hr110, hg109⟩ := bindE hg109
                  refine W.call S rfl (law24_awake_ok S.holds  hr110) ?_
                  rintro v111 w112 H113 hle114 S rfl
                  have R51 := Sl.mono R51 hle114
                  have R48 := Sl.mono R48 hle114
                  refine WL.valw (R.pickT rfl hb108 rfl) ?_
                  exact WL.nil ⟨(congrArg boo (Option.some.inj hg109)), (by repeat (first | refine agree_upd rfl ?_ | refine agree_upds' rfl ?_ | exact agree_refl)), ⟨H113, hle114, S⟩⟩
                · replace hg109 := condF hg109 hb108
                  refine WL.gno rfl rfl hb108 ?_
                  refine WL.valw (R.pickF rfl hb108 rfl) ?_
                  exact WL.nil ⟨(congrArg boo (Option.some.inj hg109)), (by repeat (first | refine agree_upd rfl ?_ | refine agree_upds' rfl ?_ | exact agree_refl)), ⟨H106, (Hp.le.refl _), S⟩⟩
              · intro us w117 ⟨H116, hle118, S⟩
                have R51 := Sl.mono R51 hle118
                have R48 := Sl.mono R48 hle118
                refine WL.valw (R.as (v := (boo b115)) rfl) ?_
                refine WL.nil ?_
                obtain rfl := Option.some.inj h
                refine WP.ret (Out.one rfl S rfl ?_)
                exact rfl
end Go.Proofs
