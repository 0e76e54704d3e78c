/- A part of the proof of laws of the seat: written by program over the translation. -/
import Derived.Test.YtmeemcjmhbgbdaaGreatDoorGenF9
namespace Go.Proofs
open Go.Eng Go.Eng.Pure
set_option linter.unusedVariables false
set_option maxRecDepth 10000 in
set_option maxHeartbeats 4000000 in
theorem ref19_Unsafe_ok {w0 : World} {H0 : Hp} (hw : Holds w0 H0) (p_method : Str) {r : Bool} (h : ref19_Unsafe p_method = some r) :
    Con Tryz.prog 15 [(str p_method)] w0 H0 (fun H' v => v = (boo r)) := by
  refine Con.mk (N := 17) Tryz.func15 rfl rfl (by kernel_rfl) rfl ?_
  have S := St.start hw
  refine WP.seq ?_
  refine WP.region ?_
  refine WL.valw (R.as (v := (boo false)) rfl) ?_
  refine WL.nil ?_
  refine WP.seq ?_
  refine WP.region ?_
  refine WL.valw (R.mv (v := (str p_method)) rfl) ?_
  refine WL.valw (R.neqS (a := p_method) (b := [71, 69, 84]) rfl rfl) ?_
  refine WL.valw (R.mv (v := (boo (p_method != [71, 69, 84]))) rfl) ?_
  refine WL.grp 3 [6, 7] 8 (boo ((p_method != [71, 69, 84]) && (p_method != [72, 69, 65, 68]))) ?_ ?_
  · rcases boolE (p_method != [71, 69, 84]) with hb1 | hb1
    · refine WL.gyes rfl rfl hb1 ?_
      refine WL.valw (R.mv (v := (str p_method)) rfl) ?_
      refine WL.gyes rfl rfl hb1 ?_
      refine WL.valw (R.neqS (a := p_method) (b := [72, 69, 65, 68]) rfl rfl) ?_
      refine WL.valw (R.pickT rfl hb1 rfl) ?_
      exact WL.nil ⟨(andT hb1), (by repeat (first | refine agree_upd rfl ?_ | refine agree_upds' rfl ?_ | exact agree_refl)), rfl⟩
    · refine WL.gno rfl rfl hb1 ?_
      refine WL.gno rfl rfl hb1 ?_
      refine WL.valw (R.pickF rfl hb1 rfl) ?_
      exact WL.nil ⟨(andF hb1), (by repeat (first | refine agree_upd rfl ?_ | refine agree_upds' rfl ?_ | exact agree_refl)), rfl⟩
  · intro us
    refine WL.valw (R.mv (v := (boo ((p_method != [71, 69, 84]) && (p_method != [72, 69, 65, 68])))) rfl) ?_
    refine WL.grp 3 [10, 11] 12 (boo (((p_method != [71, 69, 84]) && (p_method != [72, 69, 65, 68])) && (p_method != [79, 80, 84, 73, 79, 78, 83]))) ?_ ?_
    · rcases boolE ((p_method != [71, 69, 84]) && (p_method != [72, 69, 65, 68])) with hb3 | hb3
      · refine WL.gyes rfl rfl hb3 ?_
        refine WL.valw (R.mv (v := (str p_method)) rfl) ?_
        refine WL.gyes rfl rfl hb3 ?_
        refine WL.valw (R.neqS (a := p_method) (b := [79, 80, 84, 73, 79, 78, 83]) rfl rfl) ?_
        refine WL.valw (R.pickT rfl hb3 rfl) ?_
        exact WL.nil ⟨(andT hb3), (by repeat (first | refine agree_upd rfl ?_ | refine agree_upds' rfl ?_ | exact agree_refl)), rfl⟩
      · refine WL.gno rfl rfl hb3 ?_
        refine WL.gno rfl rfl hb3 ?_
        refine WL.valw (R.pickF rfl hb3 rfl) ?_
        exact WL.nil ⟨(andF hb3), (by repeat (first | refine agree_upd rfl ?_ | refine agree_upds' rfl ?_ | exact agree_refl)), rfl⟩
    · intro us
      refine WL.valw (R.mv (v := (boo (((p_method != [71, 69, 84]) && (p_method != [72, 69, 65, 68])) && (p_method != [79, 80, 84, 73, 79, 78, 83])))) rfl) ?_
      refine WL.grp 3 [14, 15] 16 (boo ((((p_method != [71, 69, 84]) && (p_method != [72, 69, 65, 68])) && (p_method != [79, 80, 84, 73, 79, 78, 83])) && (p_method != [84, 82, 65, 67, 69]))) ?_ ?_
      · rcases boolE (((p_method != [71, 69, 84]) && (p_method != [72, 69, 65, 68])) && (p_method != [79, 80, 84, 73, 79, 78, 83])) with hb5 | hb5
        · refine WL.gyes rfl rfl hb5 ?_
          refine WL.valw (R.mv (v := (str p_method)) rfl) ?_
          refine WL.gyes rfl rfl hb5 ?_
          refine WL.valw (R.neqS (a := p_method) (b := [84, 82, 65, 67, 69]) rfl rfl) ?_
          refine WL.valw (R.pickT rfl hb5 rfl) ?_
          exact WL.nil ⟨(andT hb5), (by repeat (first | refine agree_upd rfl ?_ | refine agree_upds' rfl ?_ | exact agree_refl)), rfl⟩
        · refine WL.gno rfl rfl hb5 ?_
          refine WL.gno rfl rfl hb5 ?_
          refine WL.valw (R.pickF rfl hb5 rfl) ?_
          exact WL.nil ⟨(andF hb5), (by repeat (first | refine agree_upd rfl ?_ | refine agree_upds' rfl ?_ | exact agree_refl)), rfl⟩
      · intro us
        refine WL.valw (R.as (v := (boo ((((p_method != [71, 69, 84]) && (p_method != [72, 69, 65, 68])) && (p_method != [79, 80, 84, 73, 79, 78, 83])) && (p_method != [84, 82, 65, 67, 69])))) rfl) ?_
        refine WL.nil ?_
        obtain rfl := Option.some.inj h
        refine WP.ret (Out.one rfl S rfl ?_)
        exact rfl
set_option maxRecDepth 10000 in
set_option maxHeartbeats 4000000 in
theorem law24_StorableParts_ok {w0 : World} {H0 : Hp} (hw : Holds w0 H0) (p_l : (List GField)) (p_method : Str) {vp_l : Value} (Rp_l : Sl (α := GField) H0 vp_l p_l) {r : Bool} (h : law24_StorableParts p_l p_method = some r) :
    Con Tryz.prog 4 [vp_l, (str p_method)] w0 H0 (fun H' v => v = (boo r)) := by
  refine Con.mk (N := 28) Tryz.func4 rfl rfl (by kernel_rfl) rfl ?_
  have S := St.start hw
  refine WP.seq ?_
  refine WP.region ?_
  refine WL.valw (R.as (v := (boo false)) rfl) ?_
  refine WL.nil ?_
  refine WP.seq ?_
  refine WP.seq ?_
  refine WP.region ?_
  refine WL.valw (R.mv (v := vp_l) rfl) ?_
  obtain ⟨r1, hr1, h⟩ := bindE h
  refine W.call S rfl (keep_Fields_ok S.holds p_l Rp_l hr1) ?_
  rintro v2 w3 H4 hle5 S rfl
  have Rp_l := Sl.mono Rp_l hle5
  refine WL.valw (R.not rfl) ?_
  refine WL.valw (R.mv (v := (boo (!r1))) rfl) ?_
  refine WL.grp 4 [9, 10, 11] 12 (boo ((!r1) || (decide (100 < (p_method.length : Int))))) ?_ ?_
  · rcases boolE (!r1) with hb6 | hb6
    · refine WL.gno rfl rfl hb6 ?_
      refine WL.gno rfl rfl hb6 ?_
      refine WL.gno rfl rfl hb6 ?_
      refine WL.valw (R.pickT rfl hb6 rfl) ?_
      exact WL.nil ⟨(orT hb6), (by repeat (first | refine agree_upd rfl ?_ | refine agree_upds' rfl ?_ | exact agree_refl)), rfl⟩
    · refine WL.gyes rfl rfl hb6 ?_
      refine WL.valw (R.mv (v := (str p_method)) rfl) ?_
      refine WL.gyes rfl rfl hb6 ?_
      refine WL.valw (R.lenS (a := p_method) rfl Tryz.underlying9) ?_
      refine WL.gyes rfl rfl hb6 ?_
      refine WL.valw (R.gtr rfl rfl) ?_
      refine WL.valw (R.pickF rfl hb6 rfl) ?_
      exact WL.nil ⟨(orF hb6), (by repeat (first | refine agree_upd rfl ?_ | refine agree_upds' rfl ?_ | exact agree_refl)), rfl⟩
  · intro us
    refine WL.nil ?_
    rcases condE h with ⟨hc8, h⟩ | ⟨hc8, h⟩
    · refine WP.condT rfl hc8 ?_
      refine WP.seq ?_
      refine WP.region ?_
      refine WL.valw (R.as (v := (boo true)) rfl) ?_
      refine WL.nil ?_
      obtain rfl := Option.some.inj h
      refine WP.ret (Out.one rfl S rfl ?_)
      exact rfl
    · refine WP.condF rfl hc8 ?_
      refine WP.skip ?_
      refine WP.seq ?_
      refine WP.region ?_
      refine WL.valw (R.mv (v := vp_l) rfl) ?_
      obtain ⟨r9, hr9, h⟩ := bindE h
      refine W.call S rfl (storable_Validator_ok S.holds p_l Rp_l hr9) ?_
      rintro v10 w11 H12 hle13 S rfl
      have Rp_l := Sl.mono Rp_l hle13
      refine WL.valw (R.mv (v := vp_l) rfl) ?_
      obtain ⟨r14, hr14, h⟩ := bindE h
      refine W.call S rfl (ref19_Validator_ok S.holds p_l Rp_l hr14) ?_
      rintro v15 w16 H17 hle18 S rfl
      have Rp_l := Sl.mono Rp_l hle18
      refine WL.valw (R.eqlB rfl rfl Tryz.underlying4) ?_
      refine WL.valw (R.mv (v := (boo (r9 == r14))) rfl) ?_
      obtain ⟨b31, hg20, h⟩ := bindE h
      refine WL.grpw 6 [19, 20, 21, 22, 23] 24 (boo b31) (fun w => ∃ H' : Hp, H17.le H' ∧ St w0 H0 w H' []) ?_ ?_
      · rcases boolE (r9 == r14) with hb19 | hb19
        · replace hg20 := condT hg20 hb19
          refine WL.gyes rfl rfl hb19 ?_
          refine WL.valw (R.mv (v := (str p_method)) rfl) ?_
          refine WL.gyes rfl rfl hb19 ?_
          obtain ⟨r21, hr21, hg20⟩ := bindE hg20
          refine W.call S rfl (storable_Unsafe_ok S.holds p_method hr21) ?_
          rintro v22 w23 H24 hle25 S rfl
          have Rp_l := Sl.mono Rp_l hle25
          refine WL.gyes rfl rfl hb19 ?_
          refine WL.valw (R.mv (v := (str p_method)) rfl) ?_
          refine WL.gyes rfl rfl hb19 ?_
          obtain ⟨r26, hr26, hg20⟩ := bindE hg20
          refine W.call S rfl (ref19_Unsafe_ok S.holds p_method hr26) ?_
          rintro v27 w28 H29 hle30 S rfl
          have Rp_l := Sl.mono Rp_l hle30
          refine WL.gyes rfl rfl hb19 ?_
          refine WL.valw (R.eqlB rfl rfl Tryz.underlying4) ?_
          refine WL.valw (R.pickT rfl hb19 rfl) ?_
          exact WL.nil ⟨(congrArg boo (Option.some.inj hg20)), (by repeat (first | refine agree_upd rfl ?_ | refine agree_upds' rfl ?_ | exact agree_refl)), ⟨H29, (hle25.trans hle30), S⟩⟩
        · replace hg20 := condF hg20 hb19
          refine WL.gno rfl rfl hb19 ?_
          refine WL.gno rfl rfl hb19 ?_
          refine WL.gno rfl rfl hb19 ?_
          refine WL.gno rfl rfl hb19 ?_
          refine WL.gno rfl rfl hb19 ?_
          refine WL.valw (R.pickF rfl hb19 rfl) ?_
          exact WL.nil ⟨(congrArg boo (Option.some.inj hg20)), (by repeat (first | refine agree_upd rfl ?_ | refine agree_upds' rfl ?_ | exact agree_refl)), ⟨H17, (Hp.le.refl _), S⟩⟩
      · intro us w33 ⟨H32, hle34, S⟩
        have Rp_l := Sl.mono Rp_l hle34
        refine WL.valw (R.mv (v := (boo b31)) rfl) ?_
        obtain ⟨b42, hg36, h⟩ := bindE h
        refine WL.grpw 2 [26] 27 (boo b42) (fun w => ∃ H' : Hp, H32.le H' ∧ St w0 H0 w H' []) ?_ ?_
        · rcases boolE b31 with hb35 | hb35
          · replace hg36 := condT hg36 hb35
            refine WL.gyes rfl rfl hb35 ?_
            obtain ⟨r37, hr37, hg36⟩ := bindE hg36
            refine W.call S rfl (law24_awake_ok S.holds  hr37) ?_
            rintro v38 w39 H40 hle41 S rfl
            have Rp_l := Sl.mono Rp_l hle41
            refine WL.valw (R.pickT rfl hb35 rfl) ?_
            exact WL.nil ⟨(congrArg boo (Option.some.inj hg36)), (by repeat (first | refine agree_upd rfl ?_ | refine agree_upds' rfl ?_ | exact agree_refl)), ⟨H40, hle41, S⟩⟩
          · replace hg36 := condF hg36 hb35
            refine WL.gno rfl rfl hb35 ?_
            refine WL.valw (R.pickF rfl hb35 rfl) ?_
            exact WL.nil ⟨(congrArg boo (Option.some.inj hg36)), (by repeat (first | refine agree_upd rfl ?_ | refine agree_upds' rfl ?_ | exact agree_refl)), ⟨H32, (Hp.le.refl _), S⟩⟩
        · intro us w44 ⟨H43, hle45, S⟩
          have Rp_l := Sl.mono Rp_l hle45
          refine WL.valw (R.as (v := (boo b42)) rfl) ?_
          refine WL.nil ?_
          obtain rfl := Option.some.inj h
          refine WP.ret (Out.one rfl S rfl ?_)
          exact rfl
end Go.Proofs
