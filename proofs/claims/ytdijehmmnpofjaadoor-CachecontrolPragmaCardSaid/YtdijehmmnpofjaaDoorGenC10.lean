/- A part of the proof of laws of the seat: written by program over the translation. -/
import Derived.Test.YtdijehmmnpofjaaDoorGenC9
namespace Go.Proofs
open Go.Eng Go.Eng.Pure
set_option linter.unusedVariables false
set_option maxRecDepth 10000 in
set_option maxHeartbeats 4000000 in
theorem law23_FreshnessStrict_ok {w0 : World} {H0 : Hp} (hw : Holds w0 H0) (p_ppend : Int) (p_x1 : Int) (p_x2 : GControl) (p_x3 : GControl) {r : Bool} (h : law23_FreshnessStrict p_ppend p_x1 p_x2 p_x3 = some r) :
    Con Tryd.prog 13 [(int p_ppend), (int p_x1), (agg [(boo p_x2.fNoStore), (boo p_x2.fNoCache), (boo p_x2.fMustRevalidate), (boo p_x2.fProxyRevalidate), (boo p_x2.fPrivate), (boo p_x2.fPublic), (boo p_x2.fOnlyIfCached), (int p_x2.fMaxAge), (int p_x2.fSMaxAge), (int p_x2.fMinFresh), (int p_x2.fMaxStale)]), (agg [(boo p_x3.fNoStore), (boo p_x3.fNoCache), (boo p_x3.fMustRevalidate), (boo p_x3.fProxyRevalidate), (boo p_x3.fPrivate), (boo p_x3.fPublic), (boo p_x3.fOnlyIfCached), (int p_x3.fMaxAge), (int p_x3.fSMaxAge), (int p_x3.fMinFresh), (int p_x3.fMaxStale)])] w0 H0 (fun H' v => v = (boo r)) := by
  refine Con.mk (N := 85) Tryd.func13 rfl rfl (by kernel_rfl) rfl ?_
  have S := St.start hw
  refine WP.seq ?_
  refine WP.region ?_
  refine W.box [(boo p_x2.fNoStore), (boo p_x2.fNoCache), (boo p_x2.fMustRevalidate), (boo p_x2.fProxyRevalidate), (boo p_x2.fPrivate), (boo p_x2.fPublic), (boo p_x2.fOnlyIfCached), (int p_x2.fMaxAge), (int p_x2.fSMaxAge), (int p_x2.fMinFresh), (int p_x2.fMaxStale)] S rfl rfl ?_
  intro b1 w2 S
  refine W.box [(boo p_x3.fNoStore), (boo p_x3.fNoCache), (boo p_x3.fMustRevalidate), (boo p_x3.fProxyRevalidate), (boo p_x3.fPrivate), (boo p_x3.fPublic), (boo p_x3.fOnlyIfCached), (int p_x3.fMaxAge), (int p_x3.fSMaxAge), (int p_x3.fMinFresh), (int p_x3.fMaxStale)] S rfl rfl ?_
  intro b3 w4 S
  refine WL.valw (R.as (v := (boo false)) rfl) ?_
  refine WL.nil ?_
  refine WP.seq ?_
  refine WP.region ?_
  refine WL.valw (R.mv (v := (int p_ppend)) rfl) ?_
  refine WL.valw (R.mv (v := (int p_x1)) rfl) ?_
  refine WL.valw (R.loadBN (i := 1) (vs := [(boo p_x2.fNoStore), (boo p_x2.fNoCache), (boo p_x2.fMustRevalidate), (boo p_x2.fProxyRevalidate), (boo p_x2.fPrivate), (boo p_x2.fPublic), (boo p_x2.fOnlyIfCached), (int p_x2.fMaxAge), (int p_x2.fSMaxAge), (int p_x2.fMinFresh), (int p_x2.fMaxStale)]) S rfl rfl lay32 rfl rfl) ?_
  refine WL.valw (R.loadBN (i := 0) (vs := [(boo p_x3.fNoStore), (boo p_x3.fNoCache), (boo p_x3.fMustRevalidate), (boo p_x3.fProxyRevalidate), (boo p_x3.fPrivate), (boo p_x3.fPublic), (boo p_x3.fOnlyIfCached), (int p_x3.fMaxAge), (int p_x3.fSMaxAge), (int p_x3.fMinFresh), (int p_x3.fMaxStale)]) S rfl rfl lay32 rfl rfl) ?_
  obtain ⟨r5, hr5, h⟩ := bindE h
  refine W.call S rfl (freshness_Fresh_ok S.holds p_ppend p_x1 p_x2 p_x3 hr5) ?_
  rintro v6 w7 H8 hle9 S rfl
  refine WL.valw (R.as (v := (boo r5)) rfl) ?_
  refine WL.nil ?_
  refine WP.seq ?_
  refine WP.seq ?_
  refine WP.region ?_
  refine WL.valw (R.mv (v := (boo r5)) rfl) ?_
  refine WL.valw (R.mv (v := (boo r5)) rfl) ?_
  refine WL.grp 18 [17, 18, 19, 20, 21, 22, 23, 24, 25, 26, 27, 28, 29, 30, 31, 32, 33] 34 (boo (r5 && ((p_x2.fNoCache || p_x3.fNoCache) || ((p_x2.fMaxAge != (-1)) && (decide (p_x2.fMaxAge < p_x1)))))) ?_ ?_
  · rcases boolE r5 with hb10 | hb10
    · refine WL.gyes rfl rfl hb10 ?_
      refine WL.valw (R.fieldB rfl fld32_1) ?_
      refine WL.gyes rfl rfl hb10 ?_
      refine WL.valw (R.loadB (i := 1) (v := (boo p_x2.fNoCache)) S rfl rfl lay4 rfl) ?_
      refine WL.gyes rfl rfl hb10 ?_
      refine WL.valw (R.mv (v := (boo p_x2.fNoCache)) rfl) ?_
      refine WL.grp 3 [20, 21] 22 (boo (p_x2.fNoCache || p_x3.fNoCache)) ?_ ?_
      · rcases boolE p_x2.fNoCache with hb12 | hb12
        · refine WL.gno rfl rfl hb12 ?_
          refine WL.gno rfl rfl hb12 ?_
          refine WL.gyes rfl rfl hb10 ?_
          refine WL.valw (R.pickT rfl hb12 rfl) ?_
          exact WL.nil ⟨(orT hb12), (by repeat (first | refine agree_upd rfl ?_ | refine agree_upds' rfl ?_ | exact agree_refl)), rfl⟩
        · refine WL.gyes rfl rfl hb12 ?_
          refine WL.valw (R.fieldB rfl fld32_1) ?_
          refine WL.gyes rfl rfl hb12 ?_
          refine WL.valw (R.loadB (i := 0) (v := (boo p_x3.fNoCache)) S rfl rfl lay4 rfl) ?_
          refine WL.gyes rfl rfl hb10 ?_
          refine WL.valw (R.pickF rfl hb12 rfl) ?_
          exact WL.nil ⟨(orF hb12), (by repeat (first | refine agree_upd rfl ?_ | refine agree_upds' rfl ?_ | exact agree_refl)), rfl⟩
      · intro us
        refine WL.gyes rfl rfl hb10 ?_
        refine WL.valw (R.mv (v := (boo (p_x2.fNoCache || p_x3.fNoCache))) rfl) ?_
        refine WL.grp 10 [24, 25, 26, 27, 28, 29, 30, 31, 32] 33 (boo ((p_x2.fNoCache || p_x3.fNoCache) || ((p_x2.fMaxAge != (-1)) && (decide (p_x2.fMaxAge < p_x1))))) ?_ ?_
        · rcases boolE (p_x2.fNoCache || p_x3.fNoCache) with hb14 | hb14
          · refine WL.gno rfl rfl hb14 ?_
            refine WL.gno rfl rfl hb14 ?_
            refine WL.gno rfl rfl hb14 ?_
            refine WL.gno rfl rfl hb14 ?_
            refine WL.gund rfl rfl ?_
            refine WL.gund rfl rfl ?_
            refine WL.gund rfl rfl ?_
            refine WL.gund rfl rfl ?_
            refine WL.gno rfl rfl hb14 ?_
            refine WL.gyes rfl rfl hb10 ?_
            refine WL.valw (R.pickT rfl hb14 rfl) ?_
            exact WL.nil ⟨(orT hb14), (by repeat (first | refine agree_upd rfl ?_ | refine agree_upds' rfl ?_ | exact agree_refl)), rfl⟩
          · refine WL.gyes rfl rfl hb14 ?_
            refine WL.valw (R.fieldB rfl fld32_7) ?_
            refine WL.gyes rfl rfl hb14 ?_
            refine WL.valw (R.loadB (i := 1) (v := (int p_x2.fMaxAge)) S rfl rfl lay3 rfl) ?_
            refine WL.gyes rfl rfl hb14 ?_
            refine WL.valw (R.neq rfl rfl) ?_
            refine WL.gyes rfl rfl hb14 ?_
            refine WL.valw (R.mv (v := (boo (p_x2.fMaxAge != (-1)))) rfl) ?_
            refine WL.grp 5 [28, 29, 30, 31] 32 (boo ((p_x2.fMaxAge != (-1)) && (decide (p_x2.fMaxAge < p_x1)))) ?_ ?_
            · rcases boolE (p_x2.fMaxAge != (-1)) with hb16 | hb16
              · refine WL.gyes rfl rfl hb16 ?_
                refine WL.valw (R.mv (v := (int p_x1)) rfl) ?_
                refine WL.gyes rfl rfl hb16 ?_
                refine WL.valw (R.fieldB rfl fld32_7) ?_
                refine WL.gyes rfl rfl hb16 ?_
                refine WL.valw (R.loadB (i := 1) (v := (int p_x2.fMaxAge)) S rfl rfl lay3 rfl) ?_
                refine WL.gyes rfl rfl hb16 ?_
                refine WL.valw (R.gtr rfl rfl) ?_
                refine WL.gyes rfl rfl hb14 ?_
                refine WL.valw (R.pickT rfl hb16 rfl) ?_
                exact WL.nil ⟨(andT hb16), (by repeat (first | refine agree_upd rfl ?_ | refine agree_upds' rfl ?_ | exact agree_refl)), rfl⟩
              · refine WL.gno rfl rfl hb16 ?_
                refine WL.gno rfl rfl hb16 ?_
                refine WL.gno rfl rfl hb16 ?_
                refine WL.gno rfl rfl hb16 ?_
                refine WL.gyes rfl rfl hb14 ?_
                refine WL.valw (R.pickF rfl hb16 rfl) ?_
                exact WL.nil ⟨(andF hb16), (by repeat (first | refine agree_upd rfl ?_ | refine agree_upds' rfl ?_ | exact agree_refl)), rfl⟩
            · intro us
              refine WL.gyes rfl rfl hb10 ?_
              refine WL.valw (R.pickF rfl hb14 rfl) ?_
              exact WL.nil ⟨(orF hb14), (by repeat (first | refine agree_upd rfl ?_ | refine agree_upds' rfl ?_ | exact agree_refl)), rfl⟩
        · intro us
          refine WL.valw (R.pickT rfl hb10 rfl) ?_
          exact WL.nil ⟨(andT hb10), (by repeat (first | refine agree_upd rfl ?_ | refine agree_upds' rfl ?_ | exact agree_refl)), rfl⟩
    · refine WL.gno rfl rfl hb10 ?_
      refine WL.gno rfl rfl hb10 ?_
      refine WL.gno rfl rfl hb10 ?_
      refine WL.gund rfl rfl ?_
      refine WL.gund rfl rfl ?_
      refine WL.gno rfl rfl hb10 ?_
      refine WL.gno rfl rfl hb10 ?_
      refine WL.gund rfl rfl ?_
      refine WL.gund rfl rfl ?_
      refine WL.gund rfl rfl ?_
      refine WL.gund rfl rfl ?_
      refine WL.gund rfl rfl ?_
      refine WL.gund rfl rfl ?_
      refine WL.gund rfl rfl ?_
      refine WL.gund rfl rfl ?_
      refine WL.gund rfl rfl ?_
      refine WL.gno rfl rfl hb10 ?_
      refine WL.valw (R.pickF rfl hb10 rfl) ?_
      exact WL.nil ⟨(andF hb10), (by repeat (first | refine agree_upd rfl ?_ | refine agree_upds' rfl ?_ | exact agree_refl)), rfl⟩
  · intro us
    refine WL.nil ?_
    rcases condE h with ⟨hc18, h⟩ | ⟨hc18, h⟩
    · refine WP.condT rfl hc18 ?_
      refine WP.seq ?_
      refine WP.region ?_
      refine WL.valw (R.as (v := (boo false)) rfl) ?_
      refine WL.nil ?_
      obtain rfl := Option.some.inj h
      refine WP.ret (Out.one rfl S rfl ?_)
      exact rfl
    · refine WP.condF rfl hc18 ?_
      refine WP.skip ?_
      refine WP.seq ?_
      refine WP.seq ?_
      refine WP.region ?_
      refine WL.valw (R.mv (v := (boo r5)) rfl) ?_
      refine WL.valw (R.mv (v := (boo r5)) rfl) ?_
      refine WL.grp 4 [37, 38, 39] 40 (boo (r5 && (decide (p_ppend ≤ p_x1)))) ?_ ?_
      · rcases boolE r5 with hb19 | hb19
        · refine WL.gyes rfl rfl hb19 ?_
          refine WL.valw (R.mv (v := (int p_x1)) rfl) ?_
          refine WL.gyes rfl rfl hb19 ?_
          refine WL.valw (R.mv (v := (int p_ppend)) rfl) ?_
          refine WL.gyes rfl rfl hb19 ?_
          refine WL.valw (R.geq rfl rfl) ?_
          refine WL.valw (R.pickT rfl hb19 rfl) ?_
          exact WL.nil ⟨(andT hb19), (by repeat (first | refine agree_upd rfl ?_ | refine agree_upds' rfl ?_ | exact agree_refl)), rfl⟩
        · refine WL.gno rfl rfl hb19 ?_
          refine WL.gno rfl rfl hb19 ?_
          refine WL.gno rfl rfl hb19 ?_
          refine WL.valw (R.pickF rfl hb19 rfl) ?_
          exact WL.nil ⟨(andF hb19), (by repeat (first | refine agree_upd rfl ?_ | refine agree_upds' rfl ?_ | exact agree_refl)), rfl⟩
      · intro us
        refine WL.valw (R.mv (v := (boo (r5 && (decide (p_ppend ≤ p_x1))))) rfl) ?_
        refine WL.grp 25 [42, 43, 44, 45, 46, 47, 48, 49, 50, 51, 52, 53, 54, 55, 56, 57, 58, 59, 60, 61, 62, 63, 64, 65] 66 (boo ((r5 && (decide (p_ppend ≤ p_x1))) && ((((p_x3.fMustRevalidate || p_x3.fProxyRevalidate) || (p_x3.fSMaxAge != (-1))) || (p_x2.fMaxStale == (-1))) || (decide (p_x2.fMaxStale < (wr (p_x1 - p_ppend))))))) ?_ ?_
        · rcases boolE (r5 && (decide (p_ppend ≤ p_x1))) with hb21 | hb21
          · refine WL.gyes rfl rfl hb21 ?_
            refine WL.valw (R.fieldB rfl fld32_2) ?_
            refine WL.gyes rfl rfl hb21 ?_
            refine WL.valw (R.loadB (i := 0) (v := (boo p_x3.fMustRevalidate)) S rfl rfl lay4 rfl) ?_
            refine WL.gyes rfl rfl hb21 ?_
            refine WL.valw (R.mv (v := (boo p_x3.fMustRevalidate)) rfl) ?_
            refine WL.grp 3 [45, 46] 47 (boo (p_x3.fMustRevalidate || p_x3.fProxyRevalidate)) ?_ ?_
            · rcases boolE p_x3.fMustRevalidate with hb23 | hb23
              · refine WL.gno rfl rfl hb23 ?_
                refine WL.gno rfl rfl hb23 ?_
                refine WL.gyes rfl rfl hb21 ?_
                refine WL.valw (R.pickT rfl hb23 rfl) ?_
                exact WL.nil ⟨(orT hb23), (by repeat (first | refine agree_upd rfl ?_ | refine agree_upds' rfl ?_ | exact agree_refl)), rfl⟩
              · refine WL.gyes rfl rfl hb23 ?_
                refine WL.valw (R.fieldB rfl fld32_3) ?_
                refine WL.gyes rfl rfl hb23 ?_
                refine WL.valw (R.loadB (i := 0) (v := (boo p_x3.fProxyRevalidate)) S rfl rfl lay4 rfl) ?_
                refine WL.gyes rfl rfl hb21 ?_
                refine WL.valw (R.pickF rfl hb23 rfl) ?_
                exact WL.nil ⟨(orF hb23), (by repeat (first | refine agree_upd rfl ?_ | refine agree_upds' rfl ?_ | exact agree_refl)), rfl⟩
            · intro us
              refine WL.gyes rfl rfl hb21 ?_
              refine WL.valw (R.mv (v := (boo (p_x3.fMustRevalidate || p_x3.fProxyRevalidate))) rfl) ?_
              refine WL.grp 4 [49, 50, 51] 52 (boo ((p_x3.fMustRevalidate || p_x3.fProxyRevalidate) || (p_x3.fSMaxAge != (-1)))) ?_ ?_
              · rcases boolE (p_x3.fMustRevalidate || p_x3.fProxyRevalidate) with hb25 | hb25
                · refine WL.gno rfl rfl hb25 ?_
                  refine WL.gno rfl rfl hb25 ?_
                  refine WL.gno rfl rfl hb25 ?_
                  refine WL.gyes rfl rfl hb21 ?_
                  refine WL.valw (R.pickT rfl hb25 rfl) ?_
                  exact WL.nil ⟨(orT hb25), (by repeat (first | refine agree_upd rfl ?_ | refine agree_upds' rfl ?_ | exact agree_refl)), rfl⟩
                · refine WL.gyes rfl rfl hb25 ?_
                  refine WL.valw (R.fieldB rfl fld32_8) ?_
                  refine WL.gyes rfl rfl hb25 ?_
                  refine WL.valw (R.loadB (i := 0) (v := (int p_x3.fSMaxAge)) S rfl rfl lay3 rfl) ?_
                  refine WL.gyes rfl rfl hb25 ?_
                  refine WL.valw (R.neq rfl rfl) ?_
                  refine WL.gyes rfl rfl hb21 ?_
                  refine WL.valw (R.pickF rfl hb25 rfl) ?_
                  exact WL.nil ⟨(orF hb25), (by repeat (first | refine agree_upd rfl ?_ | refine agree_upds' rfl ?_ | exact agree_refl)), rfl⟩
              · intro us
                refine WL.gyes rfl rfl hb21 ?_
                refine WL.valw (R.mv (v := (boo ((p_x3.fMustRevalidate || p_x3.fProxyRevalidate) || (p_x3.fSMaxAge != (-1))))) rfl) ?_
                refine WL.grp 4 [54, 55, 56] 57 (boo (((p_x3.fMustRevalidate || p_x3.fProxyRevalidate) || (p_x3.fSMaxAge != (-1))) || (p_x2.fMaxStale == (-1)))) ?_ ?_
                · rcases boolE ((p_x3.fMustRevalidate || p_x3.fProxyRevalidate) || (p_x3.fSMaxAge != (-1))) with hb27 | hb27
                  · refine WL.gno rfl rfl hb27 ?_
                    refine WL.gno rfl rfl hb27 ?_
                    refine WL.gno rfl rfl hb27 ?_
                    refine WL.gyes rfl rfl hb21 ?_
                    refine WL.valw (R.pickT rfl hb27 rfl) ?_
                    exact WL.nil ⟨(orT hb27), (by repeat (first | refine agree_upd rfl ?_ | refine agree_upds' rfl ?_ | exact agree_refl)), rfl⟩
                  · refine WL.gyes rfl rfl hb27 ?_
                    refine WL.valw (R.fieldB rfl fld32_10) ?_
                    refine WL.gyes rfl rfl hb27 ?_
                    refine WL.valw (R.loadB (i := 1) (v := (int p_x2.fMaxStale)) S rfl rfl lay3 rfl) ?_
                    refine WL.gyes rfl rfl hb27 ?_
                    refine WL.valw (R.eql rfl rfl) ?_
                    refine WL.gyes rfl rfl hb21 ?_
                    refine WL.valw (R.pickF rfl hb27 rfl) ?_
                    exact WL.nil ⟨(orF hb27), (by repeat (first | refine agree_upd rfl ?_ | refine agree_upds' rfl ?_ | exact agree_refl)), rfl⟩
                · intro us
                  refine WL.gyes rfl rfl hb21 ?_
                  refine WL.valw (R.mv (v := (boo (((p_x3.fMustRevalidate || p_x3.fProxyRevalidate) || (p_x3.fSMaxAge != (-1))) || (p_x2.fMaxStale == (-1))))) rfl) ?_
                  refine WL.grp 7 [59, 60, 61, 62, 63, 64] 65 (boo ((((p_x3.fMustRevalidate || p_x3.fProxyRevalidate) || (p_x3.fSMaxAge != (-1))) || (p_x2.fMaxStale == (-1))) || (decide (p_x2.fMaxStale < (wr (p_x1 - p_ppend)))))) ?_ ?_
                  · rcases boolE (((p_x3.fMustRevalidate || p_x3.fProxyRevalidate) || (p_x3.fSMaxAge != (-1))) || (p_x2.fMaxStale == (-1))) with hb29 | hb29
                    · refine WL.gno rfl rfl hb29 ?_
                      refine WL.gno rfl rfl hb29 ?_
                      refine WL.gno rfl rfl hb29 ?_
                      refine WL.gno rfl rfl hb29 ?_
                      refine WL.gno rfl rfl hb29 ?_
                      refine WL.gno rfl rfl hb29 ?_
                      refine WL.gyes rfl rfl hb21 ?_
                      refine WL.valw (R.pickT rfl hb29 rfl) ?_
                      exact WL.nil ⟨(orT hb29), (by repeat (first | refine agree_upd rfl ?_ | refine agree_upds' rfl ?_ | exact agree_refl)), rfl⟩
                    · refine WL.gyes rfl rfl hb29 ?_
                      refine WL.valw (R.mv (v := (int p_x1)) rfl) ?_
                      refine WL.gyes rfl rfl hb29 ?_
                      refine WL.valw (R.mv (v := (int p_ppend)) rfl) ?_
                      refine WL.gyes rfl rfl hb29 ?_
                      refine WL.valw (R.sub rfl rfl) ?_
                      refine WL.gyes rfl rfl hb29 ?_
                      refine WL.valw (R.fieldB rfl fld32_10) ?_
                      refine WL.gyes rfl rfl hb29 ?_
                      refine WL.valw (R.loadB (i := 1) (v := (int p_x2.fMaxStale)) S rfl rfl lay3 rfl) ?_
                      refine WL.gyes rfl rfl hb29 ?_
                      refine WL.valw (R.gtr rfl rfl) ?_
                      refine WL.gyes rfl rfl hb21 ?_
                      refine WL.valw (R.pickF rfl hb29 rfl) ?_
                      exact WL.nil ⟨(orF hb29), (by repeat (first | refine agree_upd rfl ?_ | refine agree_upds' rfl ?_ | exact agree_refl)), rfl⟩
                  · intro us
                    refine WL.valw (R.pickT rfl hb21 rfl) ?_
                    exact WL.nil ⟨(andT hb21), (by repeat (first | refine agree_upd rfl ?_ | refine agree_upds' rfl ?_ | exact agree_refl)), rfl⟩
          · refine WL.gno rfl rfl hb21 ?_
            refine WL.gno rfl rfl hb21 ?_
            refine WL.gno rfl rfl hb21 ?_
            refine WL.gund rfl rfl ?_
            refine WL.gund rfl rfl ?_
            refine WL.gno rfl rfl hb21 ?_
            refine WL.gno rfl rfl hb21 ?_
            refine WL.gund rfl rfl ?_
            refine WL.gund rfl rfl ?_
            refine WL.gund rfl rfl ?_
            refine WL.gno rfl rfl hb21 ?_
            refine WL.gno rfl rfl hb21 ?_
            refine WL.gund rfl rfl ?_
            refine WL.gund rfl rfl ?_
            refine WL.gund rfl rfl ?_
            refine WL.gno rfl rfl hb21 ?_
            refine WL.gno rfl rfl hb21 ?_
            refine WL.gund rfl rfl ?_
            refine WL.gund rfl rfl ?_
            refine WL.gund rfl rfl ?_
            refine WL.gund rfl rfl ?_
            refine WL.gund rfl rfl ?_
            refine WL.gund rfl rfl ?_
            refine WL.gno rfl rfl hb21 ?_
            refine WL.valw (R.pickF rfl hb21 rfl) ?_
            exact WL.nil ⟨(andF hb21), (by repeat (first | refine agree_upd rfl ?_ | refine agree_upds' rfl ?_ | exact agree_refl)), rfl⟩
        · intro us
          refine WL.nil ?_
          rcases condE h with ⟨hc31, h⟩ | ⟨hc31, h⟩
          · refine WP.condT rfl hc31 ?_
            refine WP.seq ?_
            refine WP.region ?_
            refine WL.valw (R.as (v := (boo false)) rfl) ?_
            refine WL.nil ?_
            obtain rfl := Option.some.inj h
            refine WP.ret (Out.one rfl S rfl ?_)
            exact rfl
          · refine WP.condF rfl hc31 ?_
            refine WP.skip ?_
            refine WP.seq ?_
            refine WP.region ?_
            refine WL.valw (R.mv (v := (boo r5)) rfl) ?_
            refine WL.valw (R.not rfl) ?_
            refine WL.valw (R.mv (v := (boo (!r5))) rfl) ?_
            refine WL.grp 4 [70, 71, 72] 73 (boo ((!r5) || (p_x2.fMinFresh == (-1)))) ?_ ?_
            · rcases boolE (!r5) with hb32 | hb32
              · refine WL.gno rfl rfl hb32 ?_
                refine WL.gno rfl rfl hb32 ?_
                refine WL.gno rfl rfl hb32 ?_
                refine WL.valw (R.pickT rfl hb32 rfl) ?_
                exact WL.nil ⟨(orT hb32), (by repeat (first | refine agree_upd rfl ?_ | refine agree_upds' rfl ?_ | exact agree_refl)), rfl⟩
              · refine WL.gyes rfl rfl hb32 ?_
                refine WL.valw (R.fieldB rfl fld32_9) ?_
                refine WL.gyes rfl rfl hb32 ?_
                refine WL.valw (R.loadB (i := 1) (v := (int p_x2.fMinFresh)) S rfl rfl lay3 rfl) ?_
                refine WL.gyes rfl rfl hb32 ?_
                refine WL.valw (R.eql rfl rfl) ?_
                refine WL.valw (R.pickF rfl hb32 rfl) ?_
                exact WL.nil ⟨(orF hb32), (by repeat (first | refine agree_upd rfl ?_ | refine agree_upds' rfl ?_ | exact agree_refl)), rfl⟩
            · intro us
              refine WL.valw (R.mv (v := (boo ((!r5) || (p_x2.fMinFresh == (-1))))) rfl) ?_
              refine WL.grp 7 [75, 76, 77, 78, 79, 80] 81 (boo (((!r5) || (p_x2.fMinFresh == (-1))) || (decide (p_x2.fMinFresh ≤ (wr (p_ppend - p_x1)))))) ?_ ?_
              · rcases boolE ((!r5) || (p_x2.fMinFresh == (-1))) with hb34 | hb34
                · refine WL.gno rfl rfl hb34 ?_
                  refine WL.gno rfl rfl hb34 ?_
                  refine WL.gno rfl rfl hb34 ?_
                  refine WL.gno rfl rfl hb34 ?_
                  refine WL.gno rfl rfl hb34 ?_
                  refine WL.gno rfl rfl hb34 ?_
                  refine WL.valw (R.pickT rfl hb34 rfl) ?_
                  exact WL.nil ⟨(orT hb34), (by repeat (first | refine agree_upd rfl ?_ | refine agree_upds' rfl ?_ | exact agree_refl)), rfl⟩
                · refine WL.gyes rfl rfl hb34 ?_
                  refine WL.valw (R.mv (v := (int p_ppend)) rfl) ?_
                  refine WL.gyes rfl rfl hb34 ?_
                  refine WL.valw (R.mv (v := (int p_x1)) rfl) ?_
                  refine WL.gyes rfl rfl hb34 ?_
                  refine WL.valw (R.sub rfl rfl) ?_
                  refine WL.gyes rfl rfl hb34 ?_
                  refine WL.valw (R.fieldB rfl fld32_9) ?_
                  refine WL.gyes rfl rfl hb34 ?_
                  refine WL.valw (R.loadB (i := 1) (v := (int p_x2.fMinFresh)) S rfl rfl lay3 rfl) ?_
                  refine WL.gyes rfl rfl hb34 ?_
                  refine WL.valw (R.geq rfl rfl) ?_
                  refine WL.valw (R.pickF rfl hb34 rfl) ?_
                  exact WL.nil ⟨(orF hb34), (by repeat (first | refine agree_upd rfl ?_ | refine agree_upds' rfl ?_ | exact agree_refl)), rfl⟩
              · intro us
                refine WL.valw (R.mv (v := (boo (((!r5) || (p_x2.fMinFresh == (-1))) || (decide (p_x2.fMinFresh ≤ (wr (p_ppend - p_x1))))))) rfl) ?_
                obtain ⟨b43, hg37, h⟩ := bindE h
                refine WL.grpw 2 [83] 84 (boo b43) (fun w => ∃ H' : Hp, H8.le H' ∧ St w0 H0 w H' [.box b3 32 [(boo p_x3.fNoStore), (boo p_x3.fNoCache), (boo p_x3.fMustRevalidate), (boo p_x3.fProxyRevalidate), (boo p_x3.fPrivate), (boo p_x3.fPublic), (boo p_x3.fOnlyIfCached), (int p_x3.fMaxAge), (int p_x3.fSMaxAge), (int p_x3.fMinFresh), (int p_x3.fMaxStale)], .box b1 32 [(boo p_x2.fNoStore), (boo p_x2.fNoCache), (boo p_x2.fMustRevalidate), (boo p_x2.fProxyRevalidate), (boo p_x2.fPrivate), (boo p_x2.fPublic), (boo p_x2.fOnlyIfCached), (int p_x2.fMaxAge), (int p_x2.fSMaxAge), (int p_x2.fMinFresh), (int p_x2.fMaxStale)]]) ?_ ?_
                · rcases boolE (((!r5) || (p_x2.fMinFresh == (-1))) || (decide (p_x2.fMinFresh ≤ (wr (p_ppend - p_x1))))) with hb36 | hb36
                  · replace hg37 := condT hg37 hb36
                    refine WL.gyes rfl rfl hb36 ?_
                    obtain ⟨r38, hr38, hg37⟩ := bindE hg37
                    refine W.call S rfl (law23_awake_ok S.holds  hr38) ?_
                    rintro v39 w40 H41 hle42 S rfl
                    refine WL.valw (R.pickT rfl hb36 rfl) ?_
                    exact WL.nil ⟨(congrArg boo (Option.some.inj hg37)), (by repeat (first | refine agree_upd rfl ?_ | refine agree_upds' rfl ?_ | exact agree_refl)), ⟨H41, hle42, S⟩⟩
                  · replace hg37 := condF hg37 hb36
                    refine WL.gno rfl rfl hb36 ?_
                    refine WL.valw (R.pickF rfl hb36 rfl) ?_
                    exact WL.nil ⟨(congrArg boo (Option.some.inj hg37)), (by repeat (first | refine agree_upd rfl ?_ | refine agree_upds' rfl ?_ | exact agree_refl)), ⟨H8, (Hp.le.refl _), S⟩⟩
                · intro us w45 ⟨H44, hle46, S⟩
                  refine WL.valw (R.as (v := (boo b43)) rfl) ?_
                  refine WL.nil ?_
                  obtain rfl := Option.some.inj h
                  refine WP.ret (Out.one rfl S rfl ?_)
                  exact rfl
end Go.Proofs
