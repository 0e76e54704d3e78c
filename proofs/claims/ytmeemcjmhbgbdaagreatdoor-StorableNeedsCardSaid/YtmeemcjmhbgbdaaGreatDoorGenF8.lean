/- A part of the proof of laws of the seat: written by program over the translation. -/
import Derived.Test.YtmeemcjmhbgbdaaGreatDoorGenF7
namespace Go.Proofs
open Go.Eng Go.Eng.Pure
set_option linter.unusedVariables false
set_option maxRecDepth 10000 in
set_option maxHeartbeats 4000000 in
theorem ref19_Lifetime_ok {w0 : World} {H0 : Hp} (hw : Holds w0 H0) (p_l : (List GField)) {vp_l : Value} (Rp_l : Sl (α := GField) H0 vp_l p_l) {r : Int} (h : ref19_Lifetime p_l = some r) :
    Con Tryz.prog 16 [vp_l] w0 H0 (fun H' v => v = (int r)) := by
  refine Con.mk (N := 41) Tryz.func16 rfl rfl (by kernel_rfl) rfl ?_
  have S := St.start hw
  refine WP.seq ?_
  refine WP.region ?_
  refine WL.valw (R.as (v := (int 0)) rfl) ?_
  refine WL.nil ?_
  refine WP.seq ?_
  refine WP.region ?_
  refine WL.valw (R.mv (v := vp_l) rfl) ?_
  obtain ⟨r1, hr1, h⟩ := bindE h
  refine W.call S rfl (ref19_ResponseControl_ok S.holds p_l Rp_l hr1) ?_
  rintro v2 w3 H4 hle5 S rfl
  have Rp_l := Sl.mono Rp_l hle5
  refine W.alloc [(boo false), (boo false), (boo false), (boo false), (boo false), (boo false), (boo false), (int 0), (int 0), (int 0), (int 0)] S zer36 ?_
  intro b6 w7 S
  refine W.store (i := 0) [(boo r1.fNoStore), (boo r1.fNoCache), (boo r1.fMustRevalidate), (boo r1.fProxyRevalidate), (boo r1.fPrivate), (boo r1.fPublic), (boo r1.fOnlyIfCached), (int r1.fMaxAge), (int r1.fSMaxAge), (int r1.fMinFresh), (int r1.fMaxStale)] S rfl rfl rfl lay36 rfl rfl (Nat.le_of_ble_eq_true rfl) rfl ?_
  intro w8 S
  refine WL.nil ?_
  refine WP.seq ?_
  refine WP.seq ?_
  refine WP.region ?_
  refine WL.valw (R.fieldB rfl fld36_8) ?_
  refine WL.valw (R.loadB (i := 0) (v := (int r1.fSMaxAge)) S rfl rfl lay3 rfl) ?_
  refine WL.valw (R.geq rfl rfl) ?_
  refine WL.nil ?_
  rcases condE h with ⟨hc9, h⟩ | ⟨hc9, h⟩
  · refine WP.condT rfl hc9 ?_
    refine WP.seq ?_
    refine WP.region ?_
    refine WL.valw (R.fieldB rfl fld36_8) ?_
    refine WL.valw (R.loadB (i := 0) (v := (int r1.fSMaxAge)) S rfl rfl lay3 rfl) ?_
    refine WL.valw (R.as (v := (int r1.fSMaxAge)) rfl) ?_
    refine WL.nil ?_
    obtain rfl := Option.some.inj h
    refine WP.ret (Out.one rfl S rfl ?_)
    exact rfl
  · refine WP.condF rfl hc9 ?_
    refine WP.skip ?_
    refine WP.seq ?_
    refine WP.seq ?_
    refine WP.region ?_
    refine WL.valw (R.fieldB rfl fld36_7) ?_
    refine WL.valw (R.loadB (i := 0) (v := (int r1.fMaxAge)) S rfl rfl lay3 rfl) ?_
    refine WL.valw (R.geq rfl rfl) ?_
    refine WL.nil ?_
    rcases condE h with ⟨hc10, h⟩ | ⟨hc10, h⟩
    · refine WP.condT rfl hc10 ?_
      refine WP.seq ?_
      refine WP.region ?_
      refine WL.valw (R.fieldB rfl fld36_7) ?_
      refine WL.valw (R.loadB (i := 0) (v := (int r1.fMaxAge)) S rfl rfl lay3 rfl) ?_
      refine WL.valw (R.as (v := (int r1.fMaxAge)) rfl) ?_
      refine WL.nil ?_
      obtain rfl := Option.some.inj h
      refine WP.ret (Out.one rfl S rfl ?_)
      exact rfl
    · refine WP.condF rfl hc10 ?_
      refine WP.skip ?_
      refine WP.seq ?_
      refine WP.region ?_
      refine WL.valw (R.mv (v := vp_l) rfl) ?_
      obtain ⟨r11, hr11, h⟩ := bindE h
      refine W.call S rfl (ref19_firstDate_ok S.holds p_l [69, 120, 112, 105, 114, 101, 115] Rp_l hr11) ?_
      rintro v12 w13 H14 hle15 S rfl
      have Rp_l := Sl.mono Rp_l hle15
      refine WL.valw (R.mv (v := (.tuple ⟨[(int r11.1), (boo r11.2)]⟩)) rfl) ?_
      refine WL.valw (R.ext rfl rfl) ?_
      refine WL.valw (R.ext rfl rfl) ?_
      refine WL.valw (R.as (v := (int r11.1)) rfl) ?_
      refine WL.valw (R.as (v := (boo r11.2)) rfl) ?_
      refine WL.nil ?_
      refine WP.seq ?_
      refine WP.region ?_
      refine WL.valw (R.mv (v := vp_l) rfl) ?_
      obtain ⟨r16, hr16, h⟩ := bindE h
      refine W.call S rfl (ref19_firstDate_ok S.holds p_l [68, 97, 116, 101] Rp_l hr16) ?_
      rintro v17 w18 H19 hle20 S rfl
      have Rp_l := Sl.mono Rp_l hle20
      refine WL.valw (R.mv (v := (.tuple ⟨[(int r16.1), (boo r16.2)]⟩)) rfl) ?_
      refine WL.valw (R.ext rfl rfl) ?_
      refine WL.valw (R.ext rfl rfl) ?_
      refine WL.valw (R.as (v := (int r16.1)) rfl) ?_
      refine WL.valw (R.as (v := (boo r16.2)) rfl) ?_
      refine WL.nil ?_
      refine WP.seq ?_
      refine WP.seq ?_
      refine WP.region ?_
      refine WL.valw (R.mv (v := (boo r11.2)) rfl) ?_
      refine WL.valw (R.not rfl) ?_
      refine WL.valw (R.mv (v := (boo (!r11.2))) rfl) ?_
      refine WL.grp 3 [33, 34] 35 (boo ((!r11.2) || (!r16.2))) ?_ ?_
      · rcases boolE (!r11.2) with hb21 | hb21
        · refine WL.gno rfl rfl hb21 ?_
          refine WL.gno rfl rfl hb21 ?_
          refine WL.valw (R.pickT rfl hb21 rfl) ?_
          exact WL.nil ⟨(orT hb21), (by repeat (first | refine agree_upd rfl ?_ | refine agree_upds' rfl ?_ | exact agree_refl)), rfl⟩
        · refine WL.gyes rfl rfl hb21 ?_
          refine WL.valw (R.mv (v := (boo r16.2)) rfl) ?_
          refine WL.gyes rfl rfl hb21 ?_
          refine WL.valw (R.not rfl) ?_
          refine WL.valw (R.pickF rfl hb21 rfl) ?_
          exact WL.nil ⟨(orF hb21), (by repeat (first | refine agree_upd rfl ?_ | refine agree_upds' rfl ?_ | exact agree_refl)), rfl⟩
      · intro us
        refine WL.nil ?_
        rcases condE h with ⟨hc23, h⟩ | ⟨hc23, h⟩
        · refine WP.condT rfl hc23 ?_
          refine WP.seq ?_
          refine WP.region ?_
          refine WL.valw (R.as (v := (int 0)) rfl) ?_
          refine WL.nil ?_
          obtain rfl := Option.some.inj h
          refine WP.ret (Out.one rfl S rfl ?_)
          exact rfl
        · refine WP.condF rfl hc23 ?_
          refine WP.skip ?_
          refine WP.seq ?_
          refine WP.region ?_
          refine WL.valw (R.mv (v := (int r11.1)) rfl) ?_
          refine WL.valw (R.mv (v := (int r16.1)) rfl) ?_
          refine WL.valw (R.sub rfl rfl) ?_
          refine WL.valw (R.max rfl rfl) ?_
          refine WL.valw (R.min rfl rfl) ?_
          refine WL.valw (R.as (v := (int (if 2147483647 < (if (wr (r11.1 - r16.1)) < 0 then 0 else (wr (r11.1 - r16.1))) then 2147483647 else (if (wr (r11.1 - r16.1)) < 0 then 0 else (wr (r11.1 - r16.1)))))) rfl) ?_
          refine WL.nil ?_
          obtain rfl := Option.some.inj h
          refine WP.ret (Out.one rfl S rfl ?_)
          exact rfl
end Go.Proofs
