/- A part of the proof of laws of the seat: written by program over the translation. -/
import Derived.Test.YtmeemcjmhbgbdaaGreatDoorGenF9
namespace Go.Proofs
open Go.Eng Go.Eng.Pure
set_option linter.unusedVariables false
set_option maxRecDepth 10000 in
set_option maxHeartbeats 4000000 in
theorem law24_StorableNeeds_ok {w0 : World} {H0 : Hp} (hw : Holds w0 H0) (p_q : GRequest) (p_r : GResponse) {vp_q3 : Value} {vp_r3 : Value} (Rp_q3 : Sl (α := GField) H0 vp_q3 p_q.fFields) (Rp_r3 : Sl (α := GField) H0 vp_r3 p_r.fFields) {r : Bool} (h : law24_StorableNeeds p_q p_r = some r) :
    Con Tryz.prog 5 [(agg [(str p_q.fMethod), (str p_q.fTarget), (int p_q.fMinor), vp_q3, (str p_q.fBody)]), (agg [(int p_r.fMinor), (int p_r.fStatus), (str p_r.fReason), vp_r3, (str p_r.fBody)])] w0 H0 (fun H' v => v = (boo r)) := by
  refine Con.mk (N := 46) Tryz.func5 rfl rfl (by kernel_rfl) rfl ?_
  have S := St.start hw
  refine WP.seq ?_
  refine WP.region ?_
  refine W.box [(str p_q.fMethod), (str p_q.fTarget), (int p_q.fMinor), vp_q3, (str p_q.fBody)] S rfl rfl ?_
  intro b1 w2 S
  refine W.box [(int p_r.fMinor), (int p_r.fStatus), (str p_r.fReason), vp_r3, (str p_r.fBody)] S rfl rfl ?_
  intro b3 w4 S
  refine WL.valw (R.as (v := (boo false)) rfl) ?_
  refine WL.nil ?_
  refine WP.seq ?_
  refine WP.seq ?_
  refine WP.region ?_
  refine WL.valw (R.loadBN (i := 1) (vs := [(str p_q.fMethod), (str p_q.fTarget), (int p_q.fMinor), vp_q3, (str p_q.fBody)]) S rfl rfl lay24 rfl rfl) ?_
  obtain ⟨r5, hr5, h⟩ := bindE h
  refine W.call S rfl (keep_Request_ok S.holds p_q Rp_q3 hr5) ?_
  rintro v6 w7 H8 hle9 S rfl
  have Rp_q3 := Sl.mono Rp_q3 hle9
  have Rp_r3 := Sl.mono Rp_r3 hle9
  refine WL.valw (R.not rfl) ?_
  refine WL.valw (R.mv (v := (boo (!r5))) rfl) ?_
  obtain ⟨b17, hg11, h⟩ := bindE h
  refine WL.grpw 4 [9, 10, 11] 12 (boo b17) (fun w => ∃ H' : Hp, H8.le H' ∧ St w0 H0 w H' [.box b3 26 [(int p_r.fMinor), (int p_r.fStatus), (str p_r.fReason), vp_r3, (str p_r.fBody)], .box b1 24 [(str p_q.fMethod), (str p_q.fTarget), (int p_q.fMinor), vp_q3, (str p_q.fBody)]]) ?_ ?_
  · rcases boolE (!r5) with hb10 | hb10
    · replace hg11 := condT hg11 hb10
      refine WL.gno rfl rfl hb10 ?_
      refine WL.gno rfl rfl hb10 ?_
      refine WL.gno rfl rfl hb10 ?_
      refine WL.valw (R.pickT rfl hb10 rfl) ?_
      exact WL.nil ⟨(congrArg boo (Option.some.inj hg11)), (by repeat (first | refine agree_upd rfl ?_ | refine agree_upds' rfl ?_ | exact agree_refl)), ⟨H8, (Hp.le.refl _), S⟩⟩
    · replace hg11 := condF hg11 hb10
      refine WL.gyes rfl rfl hb10 ?_
      refine WL.valw (R.loadBN (i := 0) (vs := [(int p_r.fMinor), (int p_r.fStatus), (str p_r.fReason), vp_r3, (str p_r.fBody)]) S rfl rfl lay26 rfl rfl) ?_
      refine WL.gyes rfl rfl hb10 ?_
      obtain ⟨r12, hr12, hg11⟩ := bindE hg11
      refine W.call S rfl (keep_Response_ok S.holds p_r Rp_r3 hr12) ?_
      rintro v13 w14 H15 hle16 S rfl
      have Rp_q3 := Sl.mono Rp_q3 hle16
      have Rp_r3 := Sl.mono Rp_r3 hle16
      refine WL.gyes rfl rfl hb10 ?_
      refine WL.valw (R.not rfl) ?_
      refine WL.valw (R.pickF rfl hb10 rfl) ?_
      exact WL.nil ⟨(congrArg boo (Option.some.inj hg11)), (by repeat (first | refine agree_upd rfl ?_ | refine agree_upds' rfl ?_ | exact agree_refl)), ⟨H15, hle16, S⟩⟩
  · intro us w19 ⟨H18, hle20, S⟩
    have Rp_q3 := Sl.mono Rp_q3 hle20
    have Rp_r3 := Sl.mono Rp_r3 hle20
    refine WL.nil ?_
    rcases condE h with ⟨hc21, h⟩ | ⟨hc21, h⟩
    · refine WP.condT rfl hc21 ?_
      refine WP.seq ?_
      refine WP.region ?_
      refine WL.valw (R.as (v := (boo true)) rfl) ?_
      refine WL.nil ?_
      obtain rfl := Option.some.inj h
      refine WP.ret (Out.one rfl S rfl ?_)
      exact rfl
    · refine WP.condF rfl hc21 ?_
      refine WP.skip ?_
      refine WP.seq ?_
      refine WP.seq ?_
      refine WP.region ?_
      refine WL.valw (R.loadBN (i := 1) (vs := [(str p_q.fMethod), (str p_q.fTarget), (int p_q.fMinor), vp_q3, (str p_q.fBody)]) S rfl rfl lay24 rfl rfl) ?_
      refine WL.valw (R.loadBN (i := 0) (vs := [(int p_r.fMinor), (int p_r.fStatus), (str p_r.fReason), vp_r3, (str p_r.fBody)]) S rfl rfl lay26 rfl rfl) ?_
      obtain ⟨r22, hr22, h⟩ := bindE h
      refine W.call S rfl (storable_Storable_ok S.holds p_q p_r Rp_q3 Rp_r3 hr22) ?_
      rintro v23 w24 H25 hle26 S rfl
      have Rp_q3 := Sl.mono Rp_q3 hle26
      have Rp_r3 := Sl.mono Rp_r3 hle26
      refine WL.valw (R.not rfl) ?_
      refine WL.nil ?_
      rcases condE h with ⟨hc27, h⟩ | ⟨hc27, h⟩
      · refine WP.condT rfl hc27 ?_
        refine WP.seq ?_
        refine WP.region ?_
        obtain ⟨r28, hr28, h⟩ := bindE h
        refine W.call S rfl (law24_awake_ok S.holds  hr28) ?_
        rintro v29 w30 H31 hle32 S rfl
        have Rp_q3 := Sl.mono Rp_q3 hle32
        have Rp_r3 := Sl.mono Rp_r3 hle32
        refine WL.valw (R.as (v := (boo r28)) rfl) ?_
        refine WL.nil ?_
        obtain rfl := Option.some.inj h
        refine WP.ret (Out.one rfl S rfl ?_)
        exact rfl
      · refine WP.condF rfl hc27 ?_
        refine WP.skip ?_
        refine WP.seq ?_
        refine WP.region ?_
        refine WL.valw (R.fieldB rfl fld24_0) ?_
        refine WL.valw (R.loadB (i := 1) (v := (str p_q.fMethod)) S rfl rfl lay9 rfl) ?_
        refine WL.valw (R.eqlS (a := p_q.fMethod) (b := [71, 69, 84]) rfl rfl) ?_
        refine WL.valw (R.mv (v := (boo (p_q.fMethod == [71, 69, 84]))) rfl) ?_
        refine WL.grp 4 [22, 23, 24] 25 (boo ((p_q.fMethod == [71, 69, 84]) && (p_r.fStatus == 200))) ?_ ?_
        · rcases boolE (p_q.fMethod == [71, 69, 84]) with hb33 | hb33
          · refine WL.gyes rfl rfl hb33 ?_
            refine WL.valw (R.fieldB rfl fld26_1) ?_
            refine WL.gyes rfl rfl hb33 ?_
            refine WL.valw (R.loadB (i := 0) (v := (int p_r.fStatus)) S rfl rfl lay3 rfl) ?_
            refine WL.gyes rfl rfl hb33 ?_
            refine WL.valw (R.eql rfl rfl) ?_
            refine WL.valw (R.pickT rfl hb33 rfl) ?_
            exact WL.nil ⟨(andT hb33), (by repeat (first | refine agree_upd rfl ?_ | refine agree_upds' rfl ?_ | exact agree_refl)), rfl⟩
          · refine WL.gno rfl rfl hb33 ?_
            refine WL.gno rfl rfl hb33 ?_
            refine WL.gno rfl rfl hb33 ?_
            refine WL.valw (R.pickF rfl hb33 rfl) ?_
            exact WL.nil ⟨(andF hb33), (by repeat (first | refine agree_upd rfl ?_ | refine agree_upds' rfl ?_ | exact agree_refl)), rfl⟩
        · intro us
          refine WL.valw (R.mv (v := (boo ((p_q.fMethod == [71, 69, 84]) && (p_r.fStatus == 200)))) rfl) ?_
          obtain ⟨b53, hg36, h⟩ := bindE h
          refine WL.grpw 10 [27, 28, 29, 30, 31, 32, 33, 34, 35] 36 (boo b53) (fun w => ∃ H' : Hp, H25.le H' ∧ St w0 H0 w H' [.box b3 26 [(int p_r.fMinor), (int p_r.fStatus), (str p_r.fReason), vp_r3, (str p_r.fBody)], .box b1 24 [(str p_q.fMethod), (str p_q.fTarget), (int p_q.fMinor), vp_q3, (str p_q.fBody)]]) ?_ ?_
          · rcases boolE ((p_q.fMethod == [71, 69, 84]) && (p_r.fStatus == 200)) with hb35 | hb35
            · replace hg36 := condT hg36 hb35
              refine WL.gyes rfl rfl hb35 ?_
              refine WL.valw (R.fieldB rfl fld26_3) ?_
              refine WL.gyes rfl rfl hb35 ?_
              refine WL.valw (R.loadB (i := 0) (v := vp_r3) S rfl rfl lay22 rfl) ?_
              refine WL.gyes rfl rfl hb35 ?_
              obtain ⟨r37, hr37, hg36⟩ := bindE hg36
              refine W.call S rfl (ref19_Lifetime_ok S.holds p_r.fFields Rp_r3 hr37) ?_
              rintro v38 w39 H40 hle41 S rfl
              have Rp_q3 := Sl.mono Rp_q3 hle41
              have Rp_r3 := Sl.mono Rp_r3 hle41
              refine WL.gyes rfl rfl hb35 ?_
              refine WL.valw (R.gtr rfl rfl) ?_
              refine WL.gyes rfl rfl hb35 ?_
              refine WL.valw (R.mv (v := (boo (decide (0 < r37)))) rfl) ?_
              obtain ⟨b49, hg43, hg36⟩ := bindE hg36
              refine WL.grpw 4 [32, 33, 34] 35 (boo b49) (fun w => ∃ H' : Hp, H40.le H' ∧ St w0 H0 w H' [.box b3 26 [(int p_r.fMinor), (int p_r.fStatus), (str p_r.fReason), vp_r3, (str p_r.fBody)], .box b1 24 [(str p_q.fMethod), (str p_q.fTarget), (int p_q.fMinor), vp_q3, (str p_q.fBody)]]) ?_ ?_
              · rcases boolE (decide (0 < r37)) with hb42 | hb42
                · replace hg43 := condT hg43 hb42
                  refine WL.gno rfl rfl hb42 ?_
                  refine WL.gno rfl rfl hb42 ?_
                  refine WL.gno rfl rfl hb42 ?_
                  refine WL.gyes rfl rfl hb35 ?_
                  refine WL.valw (R.pickT rfl hb42 rfl) ?_
                  exact WL.nil ⟨(congrArg boo (Option.some.inj hg43)), (by repeat (first | refine agree_upd rfl ?_ | refine agree_upds' rfl ?_ | exact agree_refl)), ⟨H40, (Hp.le.refl _), S⟩⟩
                · replace hg43 := condF hg43 hb42
                  refine WL.gyes rfl rfl hb42 ?_
                  refine WL.valw (R.fieldB rfl fld26_3) ?_
                  refine WL.gyes rfl rfl hb42 ?_
                  refine WL.valw (R.loadB (i := 0) (v := vp_r3) S rfl rfl lay22 rfl) ?_
                  refine WL.gyes rfl rfl hb42 ?_
                  obtain ⟨r44, hr44, hg43⟩ := bindE hg43
                  refine W.call S rfl (storable_Validator_ok S.holds p_r.fFields Rp_r3 hr44) ?_
                  rintro v45 w46 H47 hle48 S rfl
                  have Rp_q3 := Sl.mono Rp_q3 hle48
                  have Rp_r3 := Sl.mono Rp_r3 hle48
                  refine WL.gyes rfl rfl hb35 ?_
                  refine WL.valw (R.pickF rfl hb42 rfl) ?_
                  exact WL.nil ⟨(congrArg boo (Option.some.inj hg43)), (by repeat (first | refine agree_upd rfl ?_ | refine agree_upds' rfl ?_ | exact agree_refl)), ⟨H47, hle48, S⟩⟩
              · intro us w51 ⟨H50, hle52, S⟩
                have Rp_q3 := Sl.mono Rp_q3 hle52
                have Rp_r3 := Sl.mono Rp_r3 hle52
                refine WL.valw (R.pickT rfl hb35 rfl) ?_
                exact WL.nil ⟨(congrArg boo (Option.some.inj hg36)), (by repeat (first | refine agree_upd rfl ?_ | refine agree_upds' rfl ?_ | exact agree_refl)), ⟨H50, (hle41.trans hle52), S⟩⟩
            · replace hg36 := condF hg36 hb35
              refine WL.gno rfl rfl hb35 ?_
              refine WL.gno rfl rfl hb35 ?_
              refine WL.gno rfl rfl hb35 ?_
              refine WL.gno rfl rfl hb35 ?_
              refine WL.gno rfl rfl hb35 ?_
              refine WL.gund rfl rfl ?_
              refine WL.gund rfl rfl ?_
              refine WL.gund rfl rfl ?_
              refine WL.gno rfl rfl hb35 ?_
              refine WL.valw (R.pickF rfl hb35 rfl) ?_
              exact WL.nil ⟨(congrArg boo (Option.some.inj hg36)), (by repeat (first | refine agree_upd rfl ?_ | refine agree_upds' rfl ?_ | exact agree_refl)), ⟨H25, (Hp.le.refl _), S⟩⟩
          · intro us w55 ⟨H54, hle56, S⟩
            have Rp_q3 := Sl.mono Rp_q3 hle56
            have Rp_r3 := Sl.mono Rp_r3 hle56
            refine WL.valw (R.mv (v := (boo b53)) rfl) ?_
            obtain ⟨b64, hg58, h⟩ := bindE h
            refine WL.grpw 5 [38, 39, 40, 41] 42 (boo b64) (fun w => ∃ H' : Hp, H54.le H' ∧ St w0 H0 w H' [.box b3 26 [(int p_r.fMinor), (int p_r.fStatus), (str p_r.fReason), vp_r3, (str p_r.fBody)], .box b1 24 [(str p_q.fMethod), (str p_q.fTarget), (int p_q.fMinor), vp_q3, (str p_q.fBody)]]) ?_ ?_
            · rcases boolE b53 with hb57 | hb57
              · replace hg58 := condT hg58 hb57
                refine WL.gyes rfl rfl hb57 ?_
                refine WL.valw (R.fieldB rfl fld24_0) ?_
                refine WL.gyes rfl rfl hb57 ?_
                refine WL.valw (R.loadB (i := 1) (v := (str p_q.fMethod)) S rfl rfl lay9 rfl) ?_
                refine WL.gyes rfl rfl hb57 ?_
                obtain ⟨r59, hr59, hg58⟩ := bindE hg58
                refine W.call S rfl (storable_Unsafe_ok S.holds p_q.fMethod hr59) ?_
                rintro v60 w61 H62 hle63 S rfl
                have Rp_q3 := Sl.mono Rp_q3 hle63
                have Rp_r3 := Sl.mono Rp_r3 hle63
                refine WL.gyes rfl rfl hb57 ?_
                refine WL.valw (R.not rfl) ?_
                refine WL.valw (R.pickT rfl hb57 rfl) ?_
                exact WL.nil ⟨(congrArg boo (Option.some.inj hg58)), (by repeat (first | refine agree_upd rfl ?_ | refine agree_upds' rfl ?_ | exact agree_refl)), ⟨H62, hle63, S⟩⟩
              · replace hg58 := condF hg58 hb57
                refine WL.gno rfl rfl hb57 ?_
                refine WL.gno rfl rfl hb57 ?_
                refine WL.gno rfl rfl hb57 ?_
                refine WL.gno rfl rfl hb57 ?_
                refine WL.valw (R.pickF rfl hb57 rfl) ?_
                exact WL.nil ⟨(congrArg boo (Option.some.inj hg58)), (by repeat (first | refine agree_upd rfl ?_ | refine agree_upds' rfl ?_ | exact agree_refl)), ⟨H54, (Hp.le.refl _), S⟩⟩
            · intro us w66 ⟨H65, hle67, S⟩
              have Rp_q3 := Sl.mono Rp_q3 hle67
              have Rp_r3 := Sl.mono Rp_r3 hle67
              refine WL.valw (R.mv (v := (boo b64)) rfl) ?_
              obtain ⟨b75, hg69, h⟩ := bindE h
              refine WL.grpw 2 [44] 45 (boo b75) (fun w => ∃ H' : Hp, H65.le H' ∧ St w0 H0 w H' [.box b3 26 [(int p_r.fMinor), (int p_r.fStatus), (str p_r.fReason), vp_r3, (str p_r.fBody)], .box b1 24 [(str p_q.fMethod), (str p_q.fTarget), (int p_q.fMinor), vp_q3, (str p_q.fBody)]]) ?_ ?_
              · rcases boolE b64 with hb68 | hb68
                · replace hg69 := condT hg69 hb68
                  refine WL.gyes rfl rfl hb68 ?_
                  obtain ⟨r70, hr70, hg69⟩ := bindE hg69
                  refine W.call S rfl (law24_awake_ok S.holds  hr70) ?_
                  rintro v71 w72 H73 hle74 S rfl
                  have Rp_q3 := Sl.mono Rp_q3 hle74
                  have Rp_r3 := Sl.mono Rp_r3 hle74
                  refine WL.valw (R.pickT rfl hb68 rfl) ?_
                  exact WL.nil ⟨(congrArg boo (Option.some.inj hg69)), (by repeat (first | refine agree_upd rfl ?_ | refine agree_upds' rfl ?_ | exact agree_refl)), ⟨H73, hle74, S⟩⟩
                · replace hg69 := condF hg69 hb68
                  refine WL.gno rfl rfl hb68 ?_
                  refine WL.valw (R.pickF rfl hb68 rfl) ?_
                  exact WL.nil ⟨(congrArg boo (Option.some.inj hg69)), (by repeat (first | refine agree_upd rfl ?_ | refine agree_upds' rfl ?_ | exact agree_refl)), ⟨H65, (Hp.le.refl _), S⟩⟩
              · intro us w77 ⟨H76, hle78, S⟩
                have Rp_q3 := Sl.mono Rp_q3 hle78
                have Rp_r3 := Sl.mono Rp_r3 hle78
                refine WL.valw (R.as (v := (boo b75)) rfl) ?_
                refine WL.nil ?_
                obtain rfl := Option.some.inj h
                refine WP.ret (Out.one rfl S rfl ?_)
                exact rfl
end Go.Proofs
