/- A part of the proof of laws of the seat: written by program over the translation. -/
import Derived.Test.YtggmjoffcdnplaaDoorGenB4
namespace Go.Proofs
open Go.Eng Go.Eng.Pure
set_option linter.unusedVariables false
set_option maxHeartbeats 4000000 in
theorem law21_EtagLists_ok {w0 : World} {H0 : Hp} (hw : Holds w0 H0) (p_ppend : (List GField)) (p_x1 : Str) {vp_ppend : Value} (Rp_ppend : Sl (α := GField) H0 vp_ppend p_ppend) {r : Bool} (h : law21_EtagLists p_ppend p_x1 = some r) :
    Con Tryd.prog 11 [vp_ppend, (str p_x1)] w0 H0 (fun H' v => v = (boo r)) := by
  refine Con.mk (N := 73) Tryd.func11 rfl rfl (by kernel_rfl) rfl ?_
  have S := St.start hw
  refine WP.seq ?_
  refine WP.region ?_
  refine WL.valw (R.as (v := (boo false)) rfl) ?_
  refine WL.nil ?_
  refine WP.seq ?_
  refine WP.seq ?_
  refine WP.region ?_
  refine WL.valw (R.mv (v := vp_ppend) rfl) ?_
  obtain ⟨r1, hr1, h⟩ := bindE h
  refine W.call S rfl (keep_Fields_ok S.holds p_ppend Rp_ppend hr1) ?_
  rintro v2 w3 H4 hle5 S rfl
  have Rp_ppend := Sl.mono Rp_ppend hle5
  refine WL.valw (R.not rfl) ?_
  refine WL.valw (R.mv (v := (boo (!r1))) rfl) ?_
  refine WL.grp 4 [19, 20, 21] 22 (boo ((!r1) || (decide (100 < (p_x1.length : Int))))) ?_ ?_
  · rcases boolE (!r1) with hb6 | hb6
    · refine WL.gno rfl rfl hb6 ?_
      refine WL.gno rfl rfl hb6 ?_
      refine WL.gno rfl rfl hb6 ?_
      refine WL.valw (R.pickT rfl hb6 rfl) ?_
      exact WL.nil ⟨(orT hb6), (by repeat (first | refine agree_upd rfl ?_ | refine agree_upds' rfl ?_ | exact agree_refl)), rfl⟩
    · refine WL.gyes rfl rfl hb6 ?_
      refine WL.valw (R.mv (v := (str p_x1)) rfl) ?_
      refine WL.gyes rfl rfl hb6 ?_
      refine WL.valw (R.lenS (a := p_x1) rfl Tryd.underlying9) ?_
      refine WL.gyes rfl rfl hb6 ?_
      refine WL.valw (R.gtr rfl rfl) ?_
      refine WL.valw (R.pickF rfl hb6 rfl) ?_
      exact WL.nil ⟨(orF hb6), (by repeat (first | refine agree_upd rfl ?_ | refine agree_upds' rfl ?_ | exact agree_refl)), rfl⟩
  · intro us
    refine WL.nil ?_
    rcases condE h with ⟨hc8, h⟩ | ⟨hc8, h⟩
    · refine WP.condT rfl hc8 ?_
      refine WP.seq ?_
      refine WP.region ?_
      refine WL.valw (R.as (v := (boo true)) rfl) ?_
      refine WL.nil ?_
      obtain rfl := Option.some.inj h
      refine WP.ret (Out.one rfl S rfl ?_)
      exact rfl
    · refine WP.condF rfl hc8 ?_
      refine WP.skip ?_
      refine WP.seq ?_
      refine WP.region ?_
      refine WL.valw (R.mv (v := vp_ppend) rfl) ?_
      obtain ⟨r9, hr9, h⟩ := bindE h
      refine W.call S rfl (etag_Of_ok S.holds p_ppend Rp_ppend hr9) ?_
      rintro v10 w11 H12 hle13 S rfl
      have Rp_ppend := Sl.mono Rp_ppend hle13
      refine WL.valw (R.mv (v := (.tuple ⟨[(agg [(boo r9.1.fWeak), (str r9.1.fTag)]), (boo r9.2)]⟩)) rfl) ?_
      refine WL.valw (R.ext rfl rfl) ?_
      refine WL.valw (R.ext rfl rfl) ?_
      refine W.alloc [(boo false), (str [])] S zer45 ?_
      intro b14 w15 S
      refine W.store (i := 0) [(boo r9.1.fWeak), (str r9.1.fTag)] S rfl rfl rfl lay45 rfl rfl (Nat.le_of_ble_eq_true rfl) rfl ?_
      intro w16 S
      refine WL.valw (R.as (v := (boo r9.2)) rfl) ?_
      refine WL.nil ?_
      refine WP.seq ?_
      refine WP.region ?_
      refine WL.valw (R.mv (v := vp_ppend) rfl) ?_
      obtain ⟨r17, hr17, h⟩ := bindE h
      refine W.call S rfl (ref19_ETagOf_ok S.holds p_ppend Rp_ppend hr17) ?_
      rintro v18 w19 H20 hle21 S rfl
      have Rp_ppend := Sl.mono Rp_ppend hle21
      refine WL.valw (R.mv (v := (.tuple ⟨[(agg [(boo r17.1.fWeak), (str r17.1.fTag)]), (boo r17.2)]⟩)) rfl) ?_
      refine WL.valw (R.ext rfl rfl) ?_
      refine WL.valw (R.ext rfl rfl) ?_
      refine W.alloc [(boo false), (str [])] S zer45 ?_
      intro b22 w23 S
      refine W.store (i := 0) [(boo r17.1.fWeak), (str r17.1.fTag)] S rfl rfl rfl lay45 rfl rfl (Nat.le_of_ble_eq_true rfl) rfl ?_
      intro w24 S
      refine WL.valw (R.as (v := (boo r17.2)) rfl) ?_
      refine WL.nil ?_
      refine WP.seq ?_
      refine WP.region ?_
      refine WL.valw (R.mv (v := vp_ppend) rfl) ?_
      refine WL.valw (R.mv (v := (str p_x1)) rfl) ?_
      obtain ⟨r25, hr25, h⟩ := bindE h
      refine W.call S rfl (etag_List_ok S.holds p_ppend p_x1 Rp_ppend hr25) ?_
      rintro v26 w27 H28 hle29 S ⟨u30, rfl, R31⟩
      have Rp_ppend := Sl.mono Rp_ppend hle29
      refine WL.valw (R.mv (v := (.tuple ⟨[u30, (boo r25.2.1), (boo r25.2.2)]⟩)) rfl) ?_
      refine WL.valw (R.ext rfl rfl) ?_
      refine WL.valw (R.ext rfl rfl) ?_
      refine WL.valw (R.ext rfl rfl) ?_
      refine WL.valw (R.as (v := u30) rfl) ?_
      refine WL.valw (R.as (v := (boo r25.2.1)) rfl) ?_
      refine WL.valw (R.as (v := (boo r25.2.2)) rfl) ?_
      refine WL.nil ?_
      refine WP.seq ?_
      refine WP.region ?_
      refine WL.valw (R.mv (v := vp_ppend) rfl) ?_
      refine WL.valw (R.mv (v := (str p_x1)) rfl) ?_
      obtain ⟨r32, hr32, h⟩ := bindE h
      refine W.call S rfl (ref19_ETagList_ok S.holds p_ppend p_x1 Rp_ppend hr32) ?_
      rintro v33 w34 H35 hle36 S ⟨u37, rfl, R38⟩
      have Rp_ppend := Sl.mono Rp_ppend hle36
      have R31 := Sl.mono R31 hle36
      refine WL.valw (R.mv (v := (.tuple ⟨[u37, (boo r32.2.1), (boo r32.2.2)]⟩)) rfl) ?_
      refine WL.valw (R.ext rfl rfl) ?_
      refine WL.valw (R.ext rfl rfl) ?_
      refine WL.valw (R.ext rfl rfl) ?_
      refine WL.valw (R.as (v := u37) rfl) ?_
      refine WL.valw (R.as (v := (boo r32.2.1)) rfl) ?_
      refine WL.valw (R.as (v := (boo r32.2.2)) rfl) ?_
      refine WL.nil ?_
      refine WP.seq ?_
      refine WP.region ?_
      refine WL.valw (R.loadBN (i := 1) (vs := [(boo r9.1.fWeak), (str r9.1.fTag)]) S rfl rfl lay45 rfl rfl) ?_
      refine WL.valw (R.loadBN (i := 0) (vs := [(boo r17.1.fWeak), (str r17.1.fTag)]) S rfl rfl lay45 rfl rfl) ?_
      refine WL.valw (R.eqlA ((r9.1.fWeak == r17.1.fWeak) && ((r9.1.fTag == r17.1.fTag) && true)) rfl rfl ps45 fk45 rfl rfl rfl) ?_
      refine WL.valw (R.mv (v := (boo ((r9.1.fWeak == r17.1.fWeak) && ((r9.1.fTag == r17.1.fTag) && true)))) rfl) ?_
      refine WL.grp 4 [51, 52, 53] 54 (boo (((r9.1.fWeak == r17.1.fWeak) && ((r9.1.fTag == r17.1.fTag) && true)) && (r9.2 == r17.2))) ?_ ?_
      · rcases boolE ((r9.1.fWeak == r17.1.fWeak) && ((r9.1.fTag == r17.1.fTag) && true)) with hb39 | hb39
        · refine WL.gyes rfl rfl hb39 ?_
          refine WL.valw (R.mv (v := (boo r9.2)) rfl) ?_
          refine WL.gyes rfl rfl hb39 ?_
          refine WL.valw (R.mv (v := (boo r17.2)) rfl) ?_
          refine WL.gyes rfl rfl hb39 ?_
          refine WL.valw (R.eqlB rfl rfl Tryd.underlying4) ?_
          refine WL.valw (R.pickT rfl hb39 rfl) ?_
          exact WL.nil ⟨(andT hb39), (by repeat (first | refine agree_upd rfl ?_ | refine agree_upds' rfl ?_ | exact agree_refl)), rfl⟩
        · refine WL.gno rfl rfl hb39 ?_
          refine WL.gno rfl rfl hb39 ?_
          refine WL.gno rfl rfl hb39 ?_
          refine WL.valw (R.pickF rfl hb39 rfl) ?_
          exact WL.nil ⟨(andF hb39), (by repeat (first | refine agree_upd rfl ?_ | refine agree_upds' rfl ?_ | exact agree_refl)), rfl⟩
      · intro us
        refine WL.valw (R.mv (v := (boo (((r9.1.fWeak == r17.1.fWeak) && ((r9.1.fTag == r17.1.fTag) && true)) && (r9.2 == r17.2)))) rfl) ?_
        obtain ⟨b48, hg42, h⟩ := bindE h
        refine WL.grpw 4 [56, 57, 58] 59 (boo b48) (fun w => ∃ H' : Hp, H35.le H' ∧ St w0 H0 w H' [.box b22 45 [(boo r17.1.fWeak), (str r17.1.fTag)], .box b14 45 [(boo r9.1.fWeak), (str r9.1.fTag)]]) ?_ ?_
        · rcases boolE (((r9.1.fWeak == r17.1.fWeak) && ((r9.1.fTag == r17.1.fTag) && true)) && (r9.2 == r17.2)) with hb41 | hb41
          · replace hg42 := condT hg42 hb41
            refine WL.gyes rfl rfl hb41 ?_
            refine WL.valw (R.mv (v := u30) rfl) ?_
            refine WL.gyes rfl rfl hb41 ?_
            refine WL.valw (R.mv (v := u37) rfl) ?_
            refine WL.gyes rfl rfl hb41 ?_
            obtain ⟨r43, hr43, hg42⟩ := bindE hg42
            refine W.call S rfl (keep_SameTags_ok S.holds r25.1 r32.1 R31 R38 hr43) ?_
            rintro v44 w45 H46 hle47 S rfl
            have Rp_ppend := Sl.mono Rp_ppend hle47
            have R31 := Sl.mono R31 hle47
            have R38 := Sl.mono R38 hle47
            refine WL.valw (R.pickT rfl hb41 rfl) ?_
            exact WL.nil ⟨(congrArg boo (Option.some.inj hg42)), (by repeat (first | refine agree_upd rfl ?_ | refine agree_upds' rfl ?_ | exact agree_refl)), ⟨H46, hle47, S⟩⟩
          · replace hg42 := condF hg42 hb41
            refine WL.gno rfl rfl hb41 ?_
            refine WL.gno rfl rfl hb41 ?_
            refine WL.gno rfl rfl hb41 ?_
            refine WL.valw (R.pickF rfl hb41 rfl) ?_
            exact WL.nil ⟨(congrArg boo (Option.some.inj hg42)), (by repeat (first | refine agree_upd rfl ?_ | refine agree_upds' rfl ?_ | exact agree_refl)), ⟨H35, (Hp.le.refl _), S⟩⟩
        · intro us w50 ⟨H49, hle51, S⟩
          have Rp_ppend := Sl.mono Rp_ppend hle51
          have R31 := Sl.mono R31 hle51
          have R38 := Sl.mono R38 hle51
          refine WL.valw (R.mv (v := (boo b48)) rfl) ?_
          refine WL.grp 4 [61, 62, 63] 64 (boo (b48 && (r25.2.1 == r32.2.1))) ?_ ?_
          · rcases boolE b48 with hb52 | hb52
            · refine WL.gyes rfl rfl hb52 ?_
              refine WL.valw (R.mv (v := (boo r25.2.1)) rfl) ?_
              refine WL.gyes rfl rfl hb52 ?_
              refine WL.valw (R.mv (v := (boo r32.2.1)) rfl) ?_
              refine WL.gyes rfl rfl hb52 ?_
              refine WL.valw (R.eqlB rfl rfl Tryd.underlying4) ?_
              refine WL.valw (R.pickT rfl hb52 rfl) ?_
              exact WL.nil ⟨(andT hb52), (by repeat (first | refine agree_upd rfl ?_ | refine agree_upds' rfl ?_ | exact agree_refl)), rfl⟩
            · refine WL.gno rfl rfl hb52 ?_
              refine WL.gno rfl rfl hb52 ?_
              refine WL.gno rfl rfl hb52 ?_
              refine WL.valw (R.pickF rfl hb52 rfl) ?_
              exact WL.nil ⟨(andF hb52), (by repeat (first | refine agree_upd rfl ?_ | refine agree_upds' rfl ?_ | exact agree_refl)), rfl⟩
          · intro us
            refine WL.valw (R.mv (v := (boo (b48 && (r25.2.1 == r32.2.1)))) rfl) ?_
            refine WL.grp 4 [66, 67, 68] 69 (boo ((b48 && (r25.2.1 == r32.2.1)) && (r25.2.2 == r32.2.2))) ?_ ?_
            · rcases boolE (b48 && (r25.2.1 == r32.2.1)) with hb54 | hb54
              · refine WL.gyes rfl rfl hb54 ?_
                refine WL.valw (R.mv (v := (boo r25.2.2)) rfl) ?_
                refine WL.gyes rfl rfl hb54 ?_
                refine WL.valw (R.mv (v := (boo r32.2.2)) rfl) ?_
                refine WL.gyes rfl rfl hb54 ?_
                refine WL.valw (R.eqlB rfl rfl Tryd.underlying4) ?_
                refine WL.valw (R.pickT rfl hb54 rfl) ?_
                exact WL.nil ⟨(andT hb54), (by repeat (first | refine agree_upd rfl ?_ | refine agree_upds' rfl ?_ | exact agree_refl)), rfl⟩
              · refine WL.gno rfl rfl hb54 ?_
                refine WL.gno rfl rfl hb54 ?_
                refine WL.gno rfl rfl hb54 ?_
                refine WL.valw (R.pickF rfl hb54 rfl) ?_
                exact WL.nil ⟨(andF hb54), (by repeat (first | refine agree_upd rfl ?_ | refine agree_upds' rfl ?_ | exact agree_refl)), rfl⟩
            · intro us
              refine WL.valw (R.mv (v := (boo ((b48 && (r25.2.1 == r32.2.1)) && (r25.2.2 == r32.2.2)))) rfl) ?_
              obtain ⟨b63, hg57, h⟩ := bindE h
              refine WL.grpw 2 [71] 72 (boo b63) (fun w => ∃ H' : Hp, H49.le H' ∧ St w0 H0 w H' [.box b22 45 [(boo r17.1.fWeak), (str r17.1.fTag)], .box b14 45 [(boo r9.1.fWeak), (str r9.1.fTag)]]) ?_ ?_
              · rcases boolE ((b48 && (r25.2.1 == r32.2.1)) && (r25.2.2 == r32.2.2)) with hb56 | hb56
                · replace hg57 := condT hg57 hb56
                  refine WL.gyes rfl rfl hb56 ?_
                  obtain ⟨r58, hr58, hg57⟩ := bindE hg57
                  refine W.call S rfl (law21_awake_ok S.holds  hr58) ?_
                  rintro v59 w60 H61 hle62 S rfl
                  have Rp_ppend := Sl.mono Rp_ppend hle62
                  have R31 := Sl.mono R31 hle62
                  have R38 := Sl.mono R38 hle62
                  refine WL.valw (R.pickT rfl hb56 rfl) ?_
                  exact WL.nil ⟨(congrArg boo (Option.some.inj hg57)), (by repeat (first | refine agree_upd rfl ?_ | refine agree_upds' rfl ?_ | exact agree_refl)), ⟨H61, hle62, S⟩⟩
                · replace hg57 := condF hg57 hb56
                  refine WL.gno rfl rfl hb56 ?_
                  refine WL.valw (R.pickF rfl hb56 rfl) ?_
                  exact WL.nil ⟨(congrArg boo (Option.some.inj hg57)), (by repeat (first | refine agree_upd rfl ?_ | refine agree_upds' rfl ?_ | exact agree_refl)), ⟨H49, (Hp.le.refl _), S⟩⟩
              · intro us w65 ⟨H64, hle66, S⟩
                have Rp_ppend := Sl.mono Rp_ppend hle66
                have R31 := Sl.mono R31 hle66
                have R38 := Sl.mono R38 hle66
                refine WL.valw (R.as (v := (boo b63)) rfl) ?_
                refine WL.nil ?_
                obtain rfl := Option.some.inj h
                refine WP.ret (Out.one rfl S rfl ?_)
                exact rfl
end Go.Proofs
