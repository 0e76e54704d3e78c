/- A part of the proof of laws of the seat: written by program over the translation. -/
import Derived.Test.YteaklcnfmkaepaaDoorGenD6
namespace Go.Proofs
open Go.Eng Go.Eng.Pure
set_option linter.unusedVariables false
set_option maxRecDepth 10000 in
set_option maxHeartbeats 4000000 in
theorem ref26_Equal_ok {w0 : World} {H0 : Hp} (hw : Holds w0 H0) (p_a : GEntry) (p_b : GEntry) {vp_a0 : Value} {vp_a1 : Value} {vp_a2 : Value} {vp_a4 : Value} {vp_b0 : Value} {vp_b1 : Value} {vp_b2 : Value} {vp_b4 : Value} (Rp_a0 : Sl (α := (List Str)) H0 vp_a0 p_a.fKeys) (Rp_a1 : Sl (α := Str) H0 vp_a1 p_a.fVary) (Rp_a2 : Sl (α := Str) H0 vp_a2 p_a.fSnapshot) (Rp_a4 : Sl (α := GField) H0 vp_a4 p_a.fFields) (Rp_b0 : Sl (α := (List Str)) H0 vp_b0 p_b.fKeys) (Rp_b1 : Sl (α := Str) H0 vp_b1 p_b.fVary) (Rp_b2 : Sl (α := Str) H0 vp_b2 p_b.fSnapshot) (Rp_b4 : Sl (α := GField) H0 vp_b4 p_b.fFields) {r : Bool} (h : ref26_Equal p_a p_b = some r) :
    Con Tryd.prog 31 [(agg [vp_a0, vp_a1, vp_a2, (str p_a.fReason), vp_a4, (str p_a.fBody), (int p_a.fRequested), (int p_a.fReceived)]), (agg [vp_b0, vp_b1, vp_b2, (str p_b.fReason), vp_b4, (str p_b.fBody), (int p_b.fRequested), (int p_b.fReceived)])] w0 H0 (fun H' v => v = (boo r)) := by
  refine Con.mk (N := 59) Tryd.func31 rfl rfl (by kernel_rfl) rfl ?_
  have S := St.start hw
  refine WP.seq ?_
  refine WP.region ?_
  refine W.box [vp_a0, vp_a1, vp_a2, (str p_a.fReason), vp_a4, (str p_a.fBody), (int p_a.fRequested), (int p_a.fReceived)] S rfl rfl ?_
  intro b1 w2 S
  refine W.box [vp_b0, vp_b1, vp_b2, (str p_b.fReason), vp_b4, (str p_b.fBody), (int p_b.fRequested), (int p_b.fReceived)] S rfl rfl ?_
  intro b3 w4 S
  refine WL.valw (R.as (v := (boo false)) rfl) ?_
  refine WL.nil ?_
  refine WP.seq ?_
  refine WP.region ?_
  refine WL.valw (R.fieldB rfl fld41_0) ?_
  refine WL.valw (R.loadB (i := 1) (v := vp_a0) S rfl rfl lay39 rfl) ?_
  refine WL.valw (R.fieldB rfl fld41_0) ?_
  refine WL.valw (R.loadB (i := 0) (v := vp_b0) S rfl rfl lay39 rfl) ?_
  obtain ⟨r5, hr5, h⟩ := bindE h
  refine W.call S rfl (ref26_SameKeys_ok S.holds p_a.fKeys p_b.fKeys Rp_a0 Rp_b0 hr5) ?_
  rintro v6 w7 H8 hle9 S rfl
  have Rp_a0 := Sl.mono Rp_a0 hle9
  have Rp_a1 := Sl.mono Rp_a1 hle9
  have Rp_a2 := Sl.mono Rp_a2 hle9
  have Rp_a4 := Sl.mono Rp_a4 hle9
  have Rp_b0 := Sl.mono Rp_b0 hle9
  have Rp_b1 := Sl.mono Rp_b1 hle9
  have Rp_b2 := Sl.mono Rp_b2 hle9
  have Rp_b4 := Sl.mono Rp_b4 hle9
  refine WL.valw (R.mv (v := (boo r5)) rfl) ?_
  obtain ⟨b17, hg11, h⟩ := bindE h
  refine WL.grpw 6 [11, 12, 13, 14, 15] 16 (boo b17) (fun w => ∃ H' : Hp, H8.le H' ∧ St w0 H0 w H' [.box b3 41 [vp_b0, vp_b1, vp_b2, (str p_b.fReason), vp_b4, (str p_b.fBody), (int p_b.fRequested), (int p_b.fReceived)], .box b1 41 [vp_a0, vp_a1, vp_a2, (str p_a.fReason), vp_a4, (str p_a.fBody), (int p_a.fRequested), (int p_a.fReceived)]]) ?_ ?_
  · rcases boolE r5 with hb10 | hb10
    · replace hg11 := condT hg11 hb10
      refine WL.gyes rfl rfl hb10 ?_
      refine WL.valw (R.fieldB rfl fld41_1) ?_
      refine WL.gyes rfl rfl hb10 ?_
      refine WL.valw (R.loadB (i := 1) (v := vp_a1) S rfl rfl lay22 rfl) ?_
      refine WL.gyes rfl rfl hb10 ?_
      refine WL.valw (R.fieldB rfl fld41_1) ?_
      refine WL.gyes rfl rfl hb10 ?_
      refine WL.valw (R.loadB (i := 0) (v := vp_b1) S rfl rfl lay22 rfl) ?_
      refine WL.gyes rfl rfl hb10 ?_
      obtain ⟨r12, hr12, hg11⟩ := bindE hg11
      refine W.call S rfl (ref10_SameStrings_ok S.holds p_a.fVary p_b.fVary Rp_a1 Rp_b1 hr12) ?_
      rintro v13 w14 H15 hle16 S rfl
      have Rp_a0 := Sl.mono Rp_a0 hle16
      have Rp_a1 := Sl.mono Rp_a1 hle16
      have Rp_a2 := Sl.mono Rp_a2 hle16
      have Rp_a4 := Sl.mono Rp_a4 hle16
      have Rp_b0 := Sl.mono Rp_b0 hle16
      have Rp_b1 := Sl.mono Rp_b1 hle16
      have Rp_b2 := Sl.mono Rp_b2 hle16
      have Rp_b4 := Sl.mono Rp_b4 hle16
      refine WL.valw (R.pickT rfl hb10 rfl) ?_
      exact WL.nil ⟨(congrArg boo (Option.some.inj hg11)), (by repeat (first | refine agree_upd rfl ?_ | refine agree_upds' rfl ?_ | exact agree_refl)), ⟨H15, hle16, S⟩⟩
    · replace hg11 := condF hg11 hb10
      refine WL.gno rfl rfl hb10 ?_
      refine WL.gno rfl rfl hb10 ?_
      refine WL.gno rfl rfl hb10 ?_
      refine WL.gno rfl rfl hb10 ?_
      refine WL.gno rfl rfl hb10 ?_
      refine WL.valw (R.pickF rfl hb10 rfl) ?_
      exact WL.nil ⟨(congrArg boo (Option.some.inj hg11)), (by repeat (first | refine agree_upd rfl ?_ | refine agree_upds' rfl ?_ | exact agree_refl)), ⟨H8, (Hp.le.refl _), S⟩⟩
  · intro us w19 ⟨H18, hle20, S⟩
    have Rp_a0 := Sl.mono Rp_a0 hle20
    have Rp_a1 := Sl.mono Rp_a1 hle20
    have Rp_a2 := Sl.mono Rp_a2 hle20
    have Rp_a4 := Sl.mono Rp_a4 hle20
    have Rp_b0 := Sl.mono Rp_b0 hle20
    have Rp_b1 := Sl.mono Rp_b1 hle20
    have Rp_b2 := Sl.mono Rp_b2 hle20
    have Rp_b4 := Sl.mono Rp_b4 hle20
    refine WL.valw (R.mv (v := (boo b17)) rfl) ?_
    obtain ⟨b28, hg22, h⟩ := bindE h
    refine WL.grpw 6 [18, 19, 20, 21, 22] 23 (boo b28) (fun w => ∃ H' : Hp, H18.le H' ∧ St w0 H0 w H' [.box b3 41 [vp_b0, vp_b1, vp_b2, (str p_b.fReason), vp_b4, (str p_b.fBody), (int p_b.fRequested), (int p_b.fReceived)], .box b1 41 [vp_a0, vp_a1, vp_a2, (str p_a.fReason), vp_a4, (str p_a.fBody), (int p_a.fRequested), (int p_a.fReceived)]]) ?_ ?_
    · rcases boolE b17 with hb21 | hb21
      · replace hg22 := condT hg22 hb21
        refine WL.gyes rfl rfl hb21 ?_
        refine WL.valw (R.fieldB rfl fld41_2) ?_
        refine WL.gyes rfl rfl hb21 ?_
        refine WL.valw (R.loadB (i := 1) (v := vp_a2) S rfl rfl lay22 rfl) ?_
        refine WL.gyes rfl rfl hb21 ?_
        refine WL.valw (R.fieldB rfl fld41_2) ?_
        refine WL.gyes rfl rfl hb21 ?_
        refine WL.valw (R.loadB (i := 0) (v := vp_b2) S rfl rfl lay22 rfl) ?_
        refine WL.gyes rfl rfl hb21 ?_
        obtain ⟨r23, hr23, hg22⟩ := bindE hg22
        refine W.call S rfl (ref10_SameStrings_ok S.holds p_a.fSnapshot p_b.fSnapshot Rp_a2 Rp_b2 hr23) ?_
        rintro v24 w25 H26 hle27 S rfl
        have Rp_a0 := Sl.mono Rp_a0 hle27
        have Rp_a1 := Sl.mono Rp_a1 hle27
        have Rp_a2 := Sl.mono Rp_a2 hle27
        have Rp_a4 := Sl.mono Rp_a4 hle27
        have Rp_b0 := Sl.mono Rp_b0 hle27
        have Rp_b1 := Sl.mono Rp_b1 hle27
        have Rp_b2 := Sl.mono Rp_b2 hle27
        have Rp_b4 := Sl.mono Rp_b4 hle27
        refine WL.valw (R.pickT rfl hb21 rfl) ?_
        exact WL.nil ⟨(congrArg boo (Option.some.inj hg22)), (by repeat (first | refine agree_upd rfl ?_ | refine agree_upds' rfl ?_ | exact agree_refl)), ⟨H26, hle27, S⟩⟩
      · replace hg22 := condF hg22 hb21
        refine WL.gno rfl rfl hb21 ?_
        refine WL.gno rfl rfl hb21 ?_
        refine WL.gno rfl rfl hb21 ?_
        refine WL.gno rfl rfl hb21 ?_
        refine WL.gno rfl rfl hb21 ?_
        refine WL.valw (R.pickF rfl hb21 rfl) ?_
        exact WL.nil ⟨(congrArg boo (Option.some.inj hg22)), (by repeat (first | refine agree_upd rfl ?_ | refine agree_upds' rfl ?_ | exact agree_refl)), ⟨H18, (Hp.le.refl _), S⟩⟩
    · intro us w30 ⟨H29, hle31, S⟩
      have Rp_a0 := Sl.mono Rp_a0 hle31
      have Rp_a1 := Sl.mono Rp_a1 hle31
      have Rp_a2 := Sl.mono Rp_a2 hle31
      have Rp_a4 := Sl.mono Rp_a4 hle31
      have Rp_b0 := Sl.mono Rp_b0 hle31
      have Rp_b1 := Sl.mono Rp_b1 hle31
      have Rp_b2 := Sl.mono Rp_b2 hle31
      have Rp_b4 := Sl.mono Rp_b4 hle31
      refine WL.valw (R.mv (v := (boo b28)) rfl) ?_
      refine WL.grp 6 [25, 26, 27, 28, 29] 30 (boo (b28 && (p_a.fReason == p_b.fReason))) ?_ ?_
      · rcases boolE b28 with hb32 | hb32
        · refine WL.gyes rfl rfl hb32 ?_
          refine WL.valw (R.fieldB rfl fld41_3) ?_
          refine WL.gyes rfl rfl hb32 ?_
          refine WL.valw (R.loadB (i := 1) (v := (str p_a.fReason)) S rfl rfl lay9 rfl) ?_
          refine WL.gyes rfl rfl hb32 ?_
          refine WL.valw (R.fieldB rfl fld41_3) ?_
          refine WL.gyes rfl rfl hb32 ?_
          refine WL.valw (R.loadB (i := 0) (v := (str p_b.fReason)) S rfl rfl lay9 rfl) ?_
          refine WL.gyes rfl rfl hb32 ?_
          refine WL.valw (R.eqlS (a := p_a.fReason) (b := p_b.fReason) rfl rfl) ?_
          refine WL.valw (R.pickT rfl hb32 rfl) ?_
          exact WL.nil ⟨(andT hb32), (by repeat (first | refine agree_upd rfl ?_ | refine agree_upds' rfl ?_ | exact agree_refl)), rfl⟩
        · refine WL.gno rfl rfl hb32 ?_
          refine WL.gno rfl rfl hb32 ?_
          refine WL.gno rfl rfl hb32 ?_
          refine WL.gno rfl rfl hb32 ?_
          refine WL.gno rfl rfl hb32 ?_
          refine WL.valw (R.pickF rfl hb32 rfl) ?_
          exact WL.nil ⟨(andF hb32), (by repeat (first | refine agree_upd rfl ?_ | refine agree_upds' rfl ?_ | exact agree_refl)), rfl⟩
      · intro us
        refine WL.valw (R.mv (v := (boo (b28 && (p_a.fReason == p_b.fReason)))) rfl) ?_
        obtain ⟨b41, hg35, h⟩ := bindE h
        refine WL.grpw 6 [32, 33, 34, 35, 36] 37 (boo b41) (fun w => ∃ H' : Hp, H29.le H' ∧ St w0 H0 w H' [.box b3 41 [vp_b0, vp_b1, vp_b2, (str p_b.fReason), vp_b4, (str p_b.fBody), (int p_b.fRequested), (int p_b.fReceived)], .box b1 41 [vp_a0, vp_a1, vp_a2, (str p_a.fReason), vp_a4, (str p_a.fBody), (int p_a.fRequested), (int p_a.fReceived)]]) ?_ ?_
        · rcases boolE (b28 && (p_a.fReason == p_b.fReason)) with hb34 | hb34
          · replace hg35 := condT hg35 hb34
            refine WL.gyes rfl rfl hb34 ?_
            refine WL.valw (R.fieldB rfl fld41_4) ?_
            refine WL.gyes rfl rfl hb34 ?_
            refine WL.valw (R.loadB (i := 1) (v := vp_a4) S rfl rfl lay23 rfl) ?_
            refine WL.gyes rfl rfl hb34 ?_
            refine WL.valw (R.fieldB rfl fld41_4) ?_
            refine WL.gyes rfl rfl hb34 ?_
            refine WL.valw (R.loadB (i := 0) (v := vp_b4) S rfl rfl lay23 rfl) ?_
            refine WL.gyes rfl rfl hb34 ?_
            obtain ⟨r36, hr36, hg35⟩ := bindE hg35
            refine W.call S rfl (ref26_SameFields_ok S.holds p_a.fFields p_b.fFields Rp_a4 Rp_b4 hr36) ?_
            rintro v37 w38 H39 hle40 S rfl
            have Rp_a0 := Sl.mono Rp_a0 hle40
            have Rp_a1 := Sl.mono Rp_a1 hle40
            have Rp_a2 := Sl.mono Rp_a2 hle40
            have Rp_a4 := Sl.mono Rp_a4 hle40
            have Rp_b0 := Sl.mono Rp_b0 hle40
            have Rp_b1 := Sl.mono Rp_b1 hle40
            have Rp_b2 := Sl.mono Rp_b2 hle40
            have Rp_b4 := Sl.mono Rp_b4 hle40
            refine WL.valw (R.pickT rfl hb34 rfl) ?_
            exact WL.nil ⟨(congrArg boo (Option.some.inj hg35)), (by repeat (first | refine agree_upd rfl ?_ | refine agree_upds' rfl ?_ | exact agree_refl)), ⟨H39, hle40, S⟩⟩
          · replace hg35 := condF hg35 hb34
            refine WL.gno rfl rfl hb34 ?_
            refine WL.gno rfl rfl hb34 ?_
            refine WL.gno rfl rfl hb34 ?_
            refine WL.gno rfl rfl hb34 ?_
            refine WL.gno rfl rfl hb34 ?_
            refine WL.valw (R.pickF rfl hb34 rfl) ?_
            exact WL.nil ⟨(congrArg boo (Option.some.inj hg35)), (by repeat (first | refine agree_upd rfl ?_ | refine agree_upds' rfl ?_ | exact agree_refl)), ⟨H29, (Hp.le.refl _), S⟩⟩
        · intro us w43 ⟨H42, hle44, S⟩
          have Rp_a0 := Sl.mono Rp_a0 hle44
          have Rp_a1 := Sl.mono Rp_a1 hle44
          have Rp_a2 := Sl.mono Rp_a2 hle44
          have Rp_a4 := Sl.mono Rp_a4 hle44
          have Rp_b0 := Sl.mono Rp_b0 hle44
          have Rp_b1 := Sl.mono Rp_b1 hle44
          have Rp_b2 := Sl.mono Rp_b2 hle44
          have Rp_b4 := Sl.mono Rp_b4 hle44
          refine WL.valw (R.mv (v := (boo b41)) rfl) ?_
          refine WL.grp 6 [39, 40, 41, 42, 43] 44 (boo (b41 && (p_a.fBody == p_b.fBody))) ?_ ?_
          · rcases boolE b41 with hb45 | hb45
            · refine WL.gyes rfl rfl hb45 ?_
              refine WL.valw (R.fieldB rfl fld41_5) ?_
              refine WL.gyes rfl rfl hb45 ?_
              refine WL.valw (R.loadB (i := 1) (v := (str p_a.fBody)) S rfl rfl lay9 rfl) ?_
              refine WL.gyes rfl rfl hb45 ?_
              refine WL.valw (R.fieldB rfl fld41_5) ?_
              refine WL.gyes rfl rfl hb45 ?_
              refine WL.valw (R.loadB (i := 0) (v := (str p_b.fBody)) S rfl rfl lay9 rfl) ?_
              refine WL.gyes rfl rfl hb45 ?_
              refine WL.valw (R.eqlS (a := p_a.fBody) (b := p_b.fBody) rfl rfl) ?_
              refine WL.valw (R.pickT rfl hb45 rfl) ?_
              exact WL.nil ⟨(andT hb45), (by repeat (first | refine agree_upd rfl ?_ | refine agree_upds' rfl ?_ | exact agree_refl)), rfl⟩
            · refine WL.gno rfl rfl hb45 ?_
              refine WL.gno rfl rfl hb45 ?_
              refine WL.gno rfl rfl hb45 ?_
              refine WL.gno rfl rfl hb45 ?_
              refine WL.gno rfl rfl hb45 ?_
              refine WL.valw (R.pickF rfl hb45 rfl) ?_
              exact WL.nil ⟨(andF hb45), (by repeat (first | refine agree_upd rfl ?_ | refine agree_upds' rfl ?_ | exact agree_refl)), rfl⟩
          · intro us
            refine WL.valw (R.mv (v := (boo (b41 && (p_a.fBody == p_b.fBody)))) rfl) ?_
            refine WL.grp 6 [46, 47, 48, 49, 50] 51 (boo ((b41 && (p_a.fBody == p_b.fBody)) && (p_a.fRequested == p_b.fRequested))) ?_ ?_
            · rcases boolE (b41 && (p_a.fBody == p_b.fBody)) with hb47 | hb47
              · refine WL.gyes rfl rfl hb47 ?_
                refine WL.valw (R.fieldB rfl fld41_6) ?_
                refine WL.gyes rfl rfl hb47 ?_
                refine WL.valw (R.loadB (i := 1) (v := (int p_a.fRequested)) S rfl rfl lay2 rfl) ?_
                refine WL.gyes rfl rfl hb47 ?_
                refine WL.valw (R.fieldB rfl fld41_6) ?_
                refine WL.gyes rfl rfl hb47 ?_
                refine WL.valw (R.loadB (i := 0) (v := (int p_b.fRequested)) S rfl rfl lay2 rfl) ?_
                refine WL.gyes rfl rfl hb47 ?_
                refine WL.valw (R.eql rfl rfl) ?_
                refine WL.valw (R.pickT rfl hb47 rfl) ?_
                exact WL.nil ⟨(andT hb47), (by repeat (first | refine agree_upd rfl ?_ | refine agree_upds' rfl ?_ | exact agree_refl)), rfl⟩
              · refine WL.gno rfl rfl hb47 ?_
                refine WL.gno rfl rfl hb47 ?_
                refine WL.gno rfl rfl hb47 ?_
                refine WL.gno rfl rfl hb47 ?_
                refine WL.gno rfl rfl hb47 ?_
                refine WL.valw (R.pickF rfl hb47 rfl) ?_
                exact WL.nil ⟨(andF hb47), (by repeat (first | refine agree_upd rfl ?_ | refine agree_upds' rfl ?_ | exact agree_refl)), rfl⟩
            · intro us
              refine WL.valw (R.mv (v := (boo ((b41 && (p_a.fBody == p_b.fBody)) && (p_a.fRequested == p_b.fRequested)))) rfl) ?_
              refine WL.grp 6 [53, 54, 55, 56, 57] 58 (boo (((b41 && (p_a.fBody == p_b.fBody)) && (p_a.fRequested == p_b.fRequested)) && (p_a.fReceived == p_b.fReceived))) ?_ ?_
              · rcases boolE ((b41 && (p_a.fBody == p_b.fBody)) && (p_a.fRequested == p_b.fRequested)) with hb49 | hb49
                · refine WL.gyes rfl rfl hb49 ?_
                  refine WL.valw (R.fieldB rfl fld41_7) ?_
                  refine WL.gyes rfl rfl hb49 ?_
                  refine WL.valw (R.loadB (i := 1) (v := (int p_a.fReceived)) S rfl rfl lay2 rfl) ?_
                  refine WL.gyes rfl rfl hb49 ?_
                  refine WL.valw (R.fieldB rfl fld41_7) ?_
                  refine WL.gyes rfl rfl hb49 ?_
                  refine WL.valw (R.loadB (i := 0) (v := (int p_b.fReceived)) S rfl rfl lay2 rfl) ?_
                  refine WL.gyes rfl rfl hb49 ?_
                  refine WL.valw (R.eql rfl rfl) ?_
                  refine WL.valw (R.pickT rfl hb49 rfl) ?_
                  exact WL.nil ⟨(andT hb49), (by repeat (first | refine agree_upd rfl ?_ | refine agree_upds' rfl ?_ | exact agree_refl)), rfl⟩
                · refine WL.gno rfl rfl hb49 ?_
                  refine WL.gno rfl rfl hb49 ?_
                  refine WL.gno rfl rfl hb49 ?_
                  refine WL.gno rfl rfl hb49 ?_
                  refine WL.gno rfl rfl hb49 ?_
                  refine WL.valw (R.pickF rfl hb49 rfl) ?_
                  exact WL.nil ⟨(andF hb49), (by repeat (first | refine agree_upd rfl ?_ | refine agree_upds' rfl ?_ | exact agree_refl)), rfl⟩
              · intro us
                refine WL.valw (R.as (v := (boo (((b41 && (p_a.fBody == p_b.fBody)) && (p_a.fRequested == p_b.fRequested)) && (p_a.fReceived == p_b.fReceived)))) rfl) ?_
                refine WL.nil ?_
                obtain rfl := Option.some.inj h
                refine WP.ret (Out.one rfl S rfl ?_)
                exact rfl
end Go.Proofs
