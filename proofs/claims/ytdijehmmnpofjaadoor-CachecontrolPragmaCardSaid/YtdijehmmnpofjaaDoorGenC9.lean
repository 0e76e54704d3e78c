/- A part of the proof of laws of the seat: written by program over the translation. -/
import Derived.Test.YtdijehmmnpofjaaDoorGenC8
namespace Go.Proofs
open Go.Eng Go.Eng.Pure
set_option linter.unusedVariables false
set_option maxRecDepth 10000 in
set_option maxHeartbeats 4000000 in
theorem law23_FreshnessLifetimes_ok {w0 : World} {H0 : Hp} (hw : Holds w0 H0) (p_l : (List GField)) (p_received : Int) {vp_l : Value} (Rp_l : Sl (α := GField) H0 vp_l p_l) {r : Bool} (h : law23_FreshnessLifetimes p_l p_received = some r) :
    Con Tryd.prog 8 [vp_l, (int p_received)] w0 H0 (fun H' v => v = (boo r)) := by
  refine Con.mk (N := 25) Tryd.func8 rfl rfl (by kernel_rfl) rfl ?_
  have S := St.start hw
  refine WP.seq ?_
  refine WP.region ?_
  refine WL.valw (R.as (v := (boo false)) rfl) ?_
  refine WL.nil ?_
  refine WP.seq ?_
  refine WP.seq ?_
  refine WP.region ?_
  refine WL.valw (R.mv (v := vp_l) rfl) ?_
  obtain ⟨r1, hr1, h⟩ := bindE h
  refine W.call S rfl (keep_Fields_ok S.holds p_l Rp_l hr1) ?_
  rintro v2 w3 H4 hle5 S rfl
  have Rp_l := Sl.mono Rp_l hle5
  refine WL.valw (R.not rfl) ?_
  refine WL.nil ?_
  rcases condE h with ⟨hc6, h⟩ | ⟨hc6, h⟩
  · refine WP.condT rfl hc6 ?_
    refine WP.seq ?_
    refine WP.region ?_
    refine WL.valw (R.as (v := (boo true)) rfl) ?_
    refine WL.nil ?_
    obtain rfl := Option.some.inj h
    refine WP.ret (Out.one rfl S rfl ?_)
    exact rfl
  · refine WP.condF rfl hc6 ?_
    refine WP.skip ?_
    refine WP.seq ?_
    refine WP.region ?_
    refine WL.valw (R.mv (v := vp_l) rfl) ?_
    obtain ⟨r7, hr7, h⟩ := bindE h
    refine W.call S rfl (freshness_Lifetime_ok S.holds p_l Rp_l hr7) ?_
    rintro v8 w9 H10 hle11 S rfl
    have Rp_l := Sl.mono Rp_l hle11
    refine WL.valw (R.mv (v := vp_l) rfl) ?_
    obtain ⟨r12, hr12, h⟩ := bindE h
    refine W.call S rfl (ref19_Lifetime_ok S.holds p_l Rp_l hr12) ?_
    rintro v13 w14 H15 hle16 S rfl
    have Rp_l := Sl.mono Rp_l hle16
    refine WL.valw (R.eql rfl rfl) ?_
    refine WL.valw (R.mv (v := (boo (r7 == r12))) rfl) ?_
    obtain ⟨b29, hg18, h⟩ := bindE h
    refine WL.grpw 8 [14, 15, 16, 17, 18, 19, 20] 21 (boo b29) (fun w => ∃ H' : Hp, H15.le H' ∧ St w0 H0 w H' []) ?_ ?_
    · rcases boolE (r7 == r12) with hb17 | hb17
      · replace hg18 := condT hg18 hb17
        refine WL.gyes rfl rfl hb17 ?_
        refine WL.valw (R.mv (v := vp_l) rfl) ?_
        refine WL.gyes rfl rfl hb17 ?_
        refine WL.valw (R.mv (v := (int p_received)) rfl) ?_
        refine WL.gyes rfl rfl hb17 ?_
        obtain ⟨r19, hr19, hg18⟩ := bindE hg18
        refine W.call S rfl (freshness_Date_ok S.holds p_l p_received Rp_l hr19) ?_
        rintro v20 w21 H22 hle23 S rfl
        have Rp_l := Sl.mono Rp_l hle23
        refine WL.gyes rfl rfl hb17 ?_
        refine WL.valw (R.mv (v := vp_l) rfl) ?_
        refine WL.gyes rfl rfl hb17 ?_
        refine WL.valw (R.mv (v := (int p_received)) rfl) ?_
        refine WL.gyes rfl rfl hb17 ?_
        obtain ⟨r24, hr24, hg18⟩ := bindE hg18
        refine W.call S rfl (ref19_DateOf_ok S.holds p_l p_received Rp_l hr24) ?_
        rintro v25 w26 H27 hle28 S rfl
        have Rp_l := Sl.mono Rp_l hle28
        refine WL.gyes rfl rfl hb17 ?_
        refine WL.valw (R.eql rfl rfl) ?_
        refine WL.valw (R.pickT rfl hb17 rfl) ?_
        exact WL.nil ⟨(congrArg boo (Option.some.inj hg18)), (by repeat (first | refine agree_upd rfl ?_ | refine agree_upds' rfl ?_ | exact agree_refl)), ⟨H27, (hle23.trans hle28), S⟩⟩
      · replace hg18 := condF hg18 hb17
        refine WL.gno rfl rfl hb17 ?_
        refine WL.gno rfl rfl hb17 ?_
        refine WL.gno rfl rfl hb17 ?_
        refine WL.gno rfl rfl hb17 ?_
        refine WL.gno rfl rfl hb17 ?_
        refine WL.gno rfl rfl hb17 ?_
        refine WL.gno rfl rfl hb17 ?_
        refine WL.valw (R.pickF rfl hb17 rfl) ?_
        exact WL.nil ⟨(congrArg boo (Option.some.inj hg18)), (by repeat (first | refine agree_upd rfl ?_ | refine agree_upds' rfl ?_ | exact agree_refl)), ⟨H15, (Hp.le.refl _), S⟩⟩
    · intro us w31 ⟨H30, hle32, S⟩
      have Rp_l := Sl.mono Rp_l hle32
      refine WL.valw (R.mv (v := (boo b29)) rfl) ?_
      obtain ⟨b40, hg34, h⟩ := bindE h
      refine WL.grpw 2 [23] 24 (boo b40) (fun w => ∃ H' : Hp, H30.le H' ∧ St w0 H0 w H' []) ?_ ?_
      · rcases boolE b29 with hb33 | hb33
        · replace hg34 := condT hg34 hb33
          refine WL.gyes rfl rfl hb33 ?_
          obtain ⟨r35, hr35, hg34⟩ := bindE hg34
          refine W.call S rfl (law23_awake_ok S.holds  hr35) ?_
          rintro v36 w37 H38 hle39 S rfl
          have Rp_l := Sl.mono Rp_l hle39
          refine WL.valw (R.pickT rfl hb33 rfl) ?_
          exact WL.nil ⟨(congrArg boo (Option.some.inj hg34)), (by repeat (first | refine agree_upd rfl ?_ | refine agree_upds' rfl ?_ | exact agree_refl)), ⟨H38, hle39, S⟩⟩
        · replace hg34 := condF hg34 hb33
          refine WL.gno rfl rfl hb33 ?_
          refine WL.valw (R.pickF rfl hb33 rfl) ?_
          exact WL.nil ⟨(congrArg boo (Option.some.inj hg34)), (by repeat (first | refine agree_upd rfl ?_ | refine agree_upds' rfl ?_ | exact agree_refl)), ⟨H30, (Hp.le.refl _), S⟩⟩
      · intro us w42 ⟨H41, hle43, S⟩
        have Rp_l := Sl.mono Rp_l hle43
        refine WL.valw (R.as (v := (boo b40)) rfl) ?_
        refine WL.nil ?_
        obtain rfl := Option.some.inj h
        refine WP.ret (Out.one rfl S rfl ?_)
        exact rfl
set_option maxRecDepth 10000 in
set_option maxHeartbeats 4000000 in
theorem ref19_Age_ok {w0 : World} {H0 : Hp} (hw : Holds w0 H0) (p_l : (List GField)) (p_requested : Int) (p_received : Int) (p_now : Int) {vp_l : Value} (Rp_l : Sl (α := GField) H0 vp_l p_l) {r : Int} (h : ref19_Age p_l p_requested p_received p_now = some r) :
    Con Tryd.prog 35 [vp_l, (int p_requested), (int p_received), (int p_now)] w0 H0 (fun H' v => v = (int r)) := by
  refine Con.mk (N := 60) Tryd.func35 rfl rfl (by kernel_rfl) rfl ?_
  have S := St.start hw
  refine WP.seq ?_
  refine WP.region ?_
  refine WL.valw (R.as (v := (int 0)) rfl) ?_
  refine WL.nil ?_
  refine WP.seq ?_
  refine WP.seq ?_
  refine WP.region ?_
  refine WL.valw (R.mv (v := (int p_requested)) rfl) ?_
  refine WL.valw (R.lss rfl rfl) ?_
  refine WL.valw (R.mv (v := (boo (decide (p_requested < 0)))) rfl) ?_
  refine WL.grp 4 [18, 19, 20] 21 (boo ((decide (p_requested < 0)) || (decide (p_received < p_requested)))) ?_ ?_
  · rcases boolE (decide (p_requested < 0)) with hb1 | hb1
    · refine WL.gno rfl rfl hb1 ?_
      refine WL.gno rfl rfl hb1 ?_
      refine WL.gno rfl rfl hb1 ?_
      refine WL.valw (R.pickT rfl hb1 rfl) ?_
      exact WL.nil ⟨(orT hb1), (by repeat (first | refine agree_upd rfl ?_ | refine agree_upds' rfl ?_ | exact agree_refl)), rfl⟩
    · refine WL.gyes rfl rfl hb1 ?_
      refine WL.valw (R.mv (v := (int p_requested)) rfl) ?_
      refine WL.gyes rfl rfl hb1 ?_
      refine WL.valw (R.mv (v := (int p_received)) rfl) ?_
      refine WL.gyes rfl rfl hb1 ?_
      refine WL.valw (R.gtr rfl rfl) ?_
      refine WL.valw (R.pickF rfl hb1 rfl) ?_
      exact WL.nil ⟨(orF hb1), (by repeat (first | refine agree_upd rfl ?_ | refine agree_upds' rfl ?_ | exact agree_refl)), rfl⟩
  · intro us
    refine WL.valw (R.mv (v := (boo ((decide (p_requested < 0)) || (decide (p_received < p_requested))))) rfl) ?_
    refine WL.grp 4 [23, 24, 25] 26 (boo (((decide (p_requested < 0)) || (decide (p_received < p_requested))) || (decide (p_now < p_received)))) ?_ ?_
    · rcases boolE ((decide (p_requested < 0)) || (decide (p_received < p_requested))) with hb3 | hb3
      · refine WL.gno rfl rfl hb3 ?_
        refine WL.gno rfl rfl hb3 ?_
        refine WL.gno rfl rfl hb3 ?_
        refine WL.valw (R.pickT rfl hb3 rfl) ?_
        exact WL.nil ⟨(orT hb3), (by repeat (first | refine agree_upd rfl ?_ | refine agree_upds' rfl ?_ | exact agree_refl)), rfl⟩
      · refine WL.gyes rfl rfl hb3 ?_
        refine WL.valw (R.mv (v := (int p_received)) rfl) ?_
        refine WL.gyes rfl rfl hb3 ?_
        refine WL.valw (R.mv (v := (int p_now)) rfl) ?_
        refine WL.gyes rfl rfl hb3 ?_
        refine WL.valw (R.gtr rfl rfl) ?_
        refine WL.valw (R.pickF rfl hb3 rfl) ?_
        exact WL.nil ⟨(orF hb3), (by repeat (first | refine agree_upd rfl ?_ | refine agree_upds' rfl ?_ | exact agree_refl)), rfl⟩
    · intro us
      refine WL.valw (R.mv (v := (boo (((decide (p_requested < 0)) || (decide (p_received < p_requested))) || (decide (p_now < p_received))))) rfl) ?_
      refine WL.grp 3 [28, 29] 30 (boo ((((decide (p_requested < 0)) || (decide (p_received < p_requested))) || (decide (p_now < p_received))) || (decide (1099511627776 < p_now)))) ?_ ?_
      · rcases boolE (((decide (p_requested < 0)) || (decide (p_received < p_requested))) || (decide (p_now < p_received))) with hb5 | hb5
        · refine WL.gno rfl rfl hb5 ?_
          refine WL.gno rfl rfl hb5 ?_
          refine WL.valw (R.pickT rfl hb5 rfl) ?_
          exact WL.nil ⟨(orT hb5), (by repeat (first | refine agree_upd rfl ?_ | refine agree_upds' rfl ?_ | exact agree_refl)), rfl⟩
        · refine WL.gyes rfl rfl hb5 ?_
          refine WL.valw (R.mv (v := (int p_now)) rfl) ?_
          refine WL.gyes rfl rfl hb5 ?_
          refine WL.valw (R.gtr rfl rfl) ?_
          refine WL.valw (R.pickF rfl hb5 rfl) ?_
          exact WL.nil ⟨(orF hb5), (by repeat (first | refine agree_upd rfl ?_ | refine agree_upds' rfl ?_ | exact agree_refl)), rfl⟩
      · intro us
        refine WL.nil ?_
        rcases condE h with ⟨hc7, h⟩ | ⟨hc7, h⟩
        · refine WP.condT rfl hc7 ?_
          refine WP.seq ?_
          refine WP.region ?_
          refine WL.valw (R.as (v := (int 2147483647)) rfl) ?_
          refine WL.nil ?_
          obtain rfl := Option.some.inj h
          refine WP.ret (Out.one rfl S rfl ?_)
          exact rfl
        · refine WP.condF rfl hc7 ?_
          refine WP.skip ?_
          refine WP.seq ?_
          refine WP.region ?_
          refine WL.valw (R.mv (v := vp_l) rfl) ?_
          obtain ⟨r8, hr8, h⟩ := bindE h
          refine W.call S rfl (ref01_First_ok S.holds p_l [65, 103, 101] Rp_l hr8) ?_
          rintro v9 w10 H11 hle12 S rfl
          have Rp_l := Sl.mono Rp_l hle12
          refine WL.valw (R.mv (v := (.tuple ⟨[(str r8.1), (boo r8.2)]⟩)) rfl) ?_
          refine WL.valw (R.ext rfl rfl) ?_
          refine WL.valw (R.ext rfl rfl) ?_
          refine WL.valw (R.as (v := (str r8.1)) rfl) ?_
          refine WL.valw (R.as (v := (boo r8.2)) rfl) ?_
          refine WL.nil ?_
          refine WP.seq ?_
          refine WP.region ?_
          refine WL.valw (R.mv (v := (str r8.1)) rfl) ?_
          obtain ⟨r13, hr13, h⟩ := bindE h
          refine W.call S rfl (ref01_Number_ok S.holds r8.1 hr13) ?_
          rintro v14 w15 H16 hle17 S rfl
          have Rp_l := Sl.mono Rp_l hle17
          refine WL.valw (R.mv (v := (.tuple ⟨[(int r13.1), (boo r13.2)]⟩)) rfl) ?_
          refine WL.valw (R.ext rfl rfl) ?_
          refine WL.valw (R.ext rfl rfl) ?_
          refine WL.valw (R.as (v := (int r13.1)) rfl) ?_
          refine WL.valw (R.as (v := (boo r13.2)) rfl) ?_
          refine WL.nil ?_
          refine WP.seq ?_
          refine WP.region ?_
          refine WL.valw (R.mv (v := (int p_received)) rfl) ?_
          refine WL.valw (R.mv (v := vp_l) rfl) ?_
          refine WL.valw (R.mv (v := (int p_received)) rfl) ?_
          obtain ⟨r18, hr18, h⟩ := bindE h
          refine W.call S rfl (ref19_DateOf_ok S.holds p_l p_received Rp_l hr18) ?_
          rintro v19 w20 H21 hle22 S rfl
          have Rp_l := Sl.mono Rp_l hle22
          refine WL.valw (R.sub rfl rfl) ?_
          refine WL.valw (R.max rfl rfl) ?_
          refine WL.valw (R.as (v := (int (if 0 < (wr (p_received - r18)) then (wr (p_received - r18)) else 0))) rfl) ?_
          refine WL.nil ?_
          refine WP.seq ?_
          refine WP.region ?_
          refine WL.valw (R.mv (v := (int r13.1)) rfl) ?_
          refine WL.valw (R.mv (v := (int p_received)) rfl) ?_
          refine WL.valw (R.add rfl rfl) ?_
          refine WL.valw (R.mv (v := (int p_requested)) rfl) ?_
          refine WL.valw (R.sub rfl rfl) ?_
          refine WL.valw (R.as (v := (int (wr ((wr (r13.1 + p_received)) - p_requested)))) rfl) ?_
          refine WL.nil ?_
          refine WP.seq ?_
          refine WP.region ?_
          refine WL.valw (R.mv (v := (int (if 0 < (wr (p_received - r18)) then (wr (p_received - r18)) else 0))) rfl) ?_
          refine WL.valw (R.mv (v := (int (wr ((wr (r13.1 + p_received)) - p_requested)))) rfl) ?_
          refine WL.valw (R.max rfl rfl) ?_
          refine WL.valw (R.mv (v := (int p_now)) rfl) ?_
          refine WL.valw (R.add rfl rfl) ?_
          refine WL.valw (R.mv (v := (int p_received)) rfl) ?_
          refine WL.valw (R.sub rfl rfl) ?_
          refine WL.valw (R.min rfl rfl) ?_
          refine WL.valw (R.as (v := (int (if 2147483647 < (wr ((wr ((if (if 0 < (wr (p_received - r18)) then (wr (p_received - r18)) else 0) < (wr ((wr (r13.1 + p_received)) - p_requested)) then (wr ((wr (r13.1 + p_received)) - p_requested)) else (if 0 < (wr (p_received - r18)) then (wr (p_received - r18)) else 0)) + p_now)) - p_received)) then 2147483647 else (wr ((wr ((if (if 0 < (wr (p_received - r18)) then (wr (p_received - r18)) else 0) < (wr ((wr (r13.1 + p_received)) - p_requested)) then (wr ((wr (r13.1 + p_received)) - p_requested)) else (if 0 < (wr (p_received - r18)) then (wr (p_received - r18)) else 0)) + p_now)) - p_received))))) rfl) ?_
          refine WL.nil ?_
          obtain rfl := Option.some.inj h
          refine WP.ret (Out.one rfl S rfl ?_)
          exact rfl
set_option maxRecDepth 10000 in
set_option maxHeartbeats 4000000 in
theorem law23_FreshnessAges_ok {w0 : World} {H0 : Hp} (hw : Holds w0 H0) (p_l : (List GField)) (p_requested : Int) (p_received : Int) (p_now : Int) {vp_l : Value} (Rp_l : Sl (α := GField) H0 vp_l p_l) {r : Bool} (h : law23_FreshnessAges p_l p_requested p_received p_now = some r) :
    Con Tryd.prog 9 [vp_l, (int p_requested), (int p_received), (int p_now)] w0 H0 (fun H' v => v = (boo r)) := by
  refine Con.mk (N := 28) Tryd.func9 rfl rfl (by kernel_rfl) rfl ?_
  have S := St.start hw
  refine WP.seq ?_
  refine WP.region ?_
  refine WL.valw (R.as (v := (boo false)) rfl) ?_
  refine WL.nil ?_
  refine WP.seq ?_
  refine WP.region ?_
  refine WL.valw (R.mv (v := vp_l) rfl) ?_
  obtain ⟨r1, hr1, h⟩ := bindE h
  refine W.call S rfl (keep_Fields_ok S.holds p_l Rp_l hr1) ?_
  rintro v2 w3 H4 hle5 S rfl
  have Rp_l := Sl.mono Rp_l hle5
  refine WL.valw (R.not rfl) ?_
  refine WL.valw (R.mv (v := (boo (!r1))) rfl) ?_
  obtain ⟨b29, hg7, h⟩ := bindE h
  refine WL.grpw 15 [13, 14, 15, 16, 17, 18, 19, 20, 21, 22, 23, 24, 25, 26] 27 (boo b29) (fun w => ∃ H' : Hp, H4.le H' ∧ St w0 H0 w H' []) ?_ ?_
  · rcases boolE (!r1) with hb6 | hb6
    · replace hg7 := condT hg7 hb6
      refine WL.gno rfl rfl hb6 ?_
      refine WL.gno rfl rfl hb6 ?_
      refine WL.gno rfl rfl hb6 ?_
      refine WL.gno rfl rfl hb6 ?_
      refine WL.gno rfl rfl hb6 ?_
      refine WL.gno rfl rfl hb6 ?_
      refine WL.gno rfl rfl hb6 ?_
      refine WL.gno rfl rfl hb6 ?_
      refine WL.gno rfl rfl hb6 ?_
      refine WL.gno rfl rfl hb6 ?_
      refine WL.gno rfl rfl hb6 ?_
      refine WL.gno rfl rfl hb6 ?_
      refine WL.gund rfl rfl ?_
      refine WL.gno rfl rfl hb6 ?_
      refine WL.valw (R.pickT rfl hb6 rfl) ?_
      exact WL.nil ⟨(congrArg boo (Option.some.inj hg7)), (by repeat (first | refine agree_upd rfl ?_ | refine agree_upds' rfl ?_ | exact agree_refl)), ⟨H4, (Hp.le.refl _), S⟩⟩
    · replace hg7 := condF hg7 hb6
      refine WL.gyes rfl rfl hb6 ?_
      refine WL.valw (R.mv (v := vp_l) rfl) ?_
      refine WL.gyes rfl rfl hb6 ?_
      refine WL.valw (R.mv (v := (int p_requested)) rfl) ?_
      refine WL.gyes rfl rfl hb6 ?_
      refine WL.valw (R.mv (v := (int p_received)) rfl) ?_
      refine WL.gyes rfl rfl hb6 ?_
      refine WL.valw (R.mv (v := (int p_now)) rfl) ?_
      refine WL.gyes rfl rfl hb6 ?_
      obtain ⟨r8, hr8, hg7⟩ := bindE hg7
      refine W.call S rfl (freshness_Age_ok S.holds p_l p_requested p_received p_now Rp_l hr8) ?_
      rintro v9 w10 H11 hle12 S rfl
      have Rp_l := Sl.mono Rp_l hle12
      refine WL.gyes rfl rfl hb6 ?_
      refine WL.valw (R.mv (v := vp_l) rfl) ?_
      refine WL.gyes rfl rfl hb6 ?_
      refine WL.valw (R.mv (v := (int p_requested)) rfl) ?_
      refine WL.gyes rfl rfl hb6 ?_
      refine WL.valw (R.mv (v := (int p_received)) rfl) ?_
      refine WL.gyes rfl rfl hb6 ?_
      refine WL.valw (R.mv (v := (int p_now)) rfl) ?_
      refine WL.gyes rfl rfl hb6 ?_
      obtain ⟨r13, hr13, hg7⟩ := bindE hg7
      refine W.call S rfl (ref19_Age_ok S.holds p_l p_requested p_received p_now Rp_l hr13) ?_
      rintro v14 w15 H16 hle17 S rfl
      have Rp_l := Sl.mono Rp_l hle17
      refine WL.gyes rfl rfl hb6 ?_
      refine WL.valw (R.eql rfl rfl) ?_
      refine WL.gyes rfl rfl hb6 ?_
      refine WL.valw (R.mv (v := (boo (r8 == r13))) rfl) ?_
      obtain ⟨b25, hg19, hg7⟩ := bindE hg7
      refine WL.grpw 2 [25] 26 (boo b25) (fun w => ∃ H' : Hp, H16.le H' ∧ St w0 H0 w H' []) ?_ ?_
      · rcases boolE (r8 == r13) with hb18 | hb18
        · replace hg19 := condT hg19 hb18
          refine WL.gyes rfl rfl hb18 ?_
          obtain ⟨r20, hr20, hg19⟩ := bindE hg19
          refine W.call S rfl (law23_awake_ok S.holds  hr20) ?_
          rintro v21 w22 H23 hle24 S rfl
          have Rp_l := Sl.mono Rp_l hle24
          refine WL.gyes rfl rfl hb6 ?_
          refine WL.valw (R.pickT rfl hb18 rfl) ?_
          exact WL.nil ⟨(congrArg boo (Option.some.inj hg19)), (by repeat (first | refine agree_upd rfl ?_ | refine agree_upds' rfl ?_ | exact agree_refl)), ⟨H23, hle24, S⟩⟩
        · replace hg19 := condF hg19 hb18
          refine WL.gno rfl rfl hb18 ?_
          refine WL.gyes rfl rfl hb6 ?_
          refine WL.valw (R.pickF rfl hb18 rfl) ?_
          exact WL.nil ⟨(congrArg boo (Option.some.inj hg19)), (by repeat (first | refine agree_upd rfl ?_ | refine agree_upds' rfl ?_ | exact agree_refl)), ⟨H16, (Hp.le.refl _), S⟩⟩
      · intro us w27 ⟨H26, hle28, S⟩
        have Rp_l := Sl.mono Rp_l hle28
        refine WL.valw (R.pickF rfl hb6 rfl) ?_
        exact WL.nil ⟨(congrArg boo (Option.some.inj hg7)), (by repeat (first | refine agree_upd rfl ?_ | refine agree_upds' rfl ?_ | exact agree_refl)), ⟨H26, ((hle12.trans hle17).trans hle28), S⟩⟩
  · intro us w31 ⟨H30, hle32, S⟩
    have Rp_l := Sl.mono Rp_l hle32
    refine WL.valw (R.as (v := (boo b29)) rfl) ?_
    refine WL.nil ?_
    obtain rfl := Option.some.inj h
    refine WP.ret (Out.one rfl S rfl ?_)
    exact rfl
set_option maxRecDepth 10000 in
set_option maxHeartbeats 4000000 in
theorem ref19_Fresh_ok {w0 : World} {H0 : Hp} (hw : Holds w0 H0) (p_ppend : Int) (p_x1 : Int) (p_x2 : GControl) (p_x3 : GControl) {r : Bool} (h : ref19_Fresh p_ppend p_x1 p_x2 p_x3 = some r) :
    Con Tryd.prog 37 [(int p_ppend), (int p_x1), (agg [(boo p_x2.fNoStore), (boo p_x2.fNoCache), (boo p_x2.fMustRevalidate), (boo p_x2.fProxyRevalidate), (boo p_x2.fPrivate), (boo p_x2.fPublic), (boo p_x2.fOnlyIfCached), (int p_x2.fMaxAge), (int p_x2.fSMaxAge), (int p_x2.fMinFresh), (int p_x2.fMaxStale)]), (agg [(boo p_x3.fNoStore), (boo p_x3.fNoCache), (boo p_x3.fMustRevalidate), (boo p_x3.fProxyRevalidate), (boo p_x3.fPrivate), (boo p_x3.fPublic), (boo p_x3.fOnlyIfCached), (int p_x3.fMaxAge), (int p_x3.fSMaxAge), (int p_x3.fMinFresh), (int p_x3.fMaxStale)])] w0 H0 (fun H' v => v = (boo r)) := by
  refine Con.mk (N := 85) Tryd.func37 rfl rfl (by kernel_rfl) rfl ?_
  have S := St.start hw
  refine WP.seq ?_
  refine WP.region ?_
  refine W.box [(boo p_x2.fNoStore), (boo p_x2.fNoCache), (boo p_x2.fMustRevalidate), (boo p_x2.fProxyRevalidate), (boo p_x2.fPrivate), (boo p_x2.fPublic), (boo p_x2.fOnlyIfCached), (int p_x2.fMaxAge), (int p_x2.fSMaxAge), (int p_x2.fMinFresh), (int p_x2.fMaxStale)] S rfl rfl ?_
  intro b1 w2 S
  refine W.box [(boo p_x3.fNoStore), (boo p_x3.fNoCache), (boo p_x3.fMustRevalidate), (boo p_x3.fProxyRevalidate), (boo p_x3.fPrivate), (boo p_x3.fPublic), (boo p_x3.fOnlyIfCached), (int p_x3.fMaxAge), (int p_x3.fSMaxAge), (int p_x3.fMinFresh), (int p_x3.fMaxStale)] S rfl rfl ?_
  intro b3 w4 S
  refine WL.valw (R.as (v := (boo false)) rfl) ?_
  refine WL.nil ?_
  refine WP.seq ?_
  refine WP.block ?_
  refine WP.seq ?_
  refine WP.region ?_
  refine WL.valw (R.mv (v := (int p_ppend)) rfl) ?_
  refine WL.valw (R.lss rfl rfl) ?_
  refine WL.valw (R.mv (v := (boo (decide (p_ppend < 0)))) rfl) ?_
  refine WL.grp 3 [13, 14] 15 (boo ((decide (p_ppend < 0)) || (decide (2147483647 < p_ppend)))) ?_ ?_
  · rcases boolE (decide (p_ppend < 0)) with hb5 | hb5
    · refine WL.gno rfl rfl hb5 ?_
      refine WL.gno rfl rfl hb5 ?_
      refine WL.valw (R.pickT rfl hb5 rfl) ?_
      exact WL.nil ⟨(orT hb5), (by repeat (first | refine agree_upd rfl ?_ | refine agree_upds' rfl ?_ | exact agree_refl)), rfl⟩
    · refine WL.gyes rfl rfl hb5 ?_
      refine WL.valw (R.mv (v := (int p_ppend)) rfl) ?_
      refine WL.gyes rfl rfl hb5 ?_
      refine WL.valw (R.gtr rfl rfl) ?_
      refine WL.valw (R.pickF rfl hb5 rfl) ?_
      exact WL.nil ⟨(orF hb5), (by repeat (first | refine agree_upd rfl ?_ | refine agree_upds' rfl ?_ | exact agree_refl)), rfl⟩
  · intro us
    refine WL.valw (R.mv (v := (boo ((decide (p_ppend < 0)) || (decide (2147483647 < p_ppend))))) rfl) ?_
    refine WL.grp 3 [17, 18] 19 (boo (((decide (p_ppend < 0)) || (decide (2147483647 < p_ppend))) || (decide (p_x1 < 0)))) ?_ ?_
    · rcases boolE ((decide (p_ppend < 0)) || (decide (2147483647 < p_ppend))) with hb7 | hb7
      · refine WL.gno rfl rfl hb7 ?_
        refine WL.gno rfl rfl hb7 ?_
        refine WL.valw (R.pickT rfl hb7 rfl) ?_
        exact WL.nil ⟨(orT hb7), (by repeat (first | refine agree_upd rfl ?_ | refine agree_upds' rfl ?_ | exact agree_refl)), rfl⟩
      · refine WL.gyes rfl rfl hb7 ?_
        refine WL.valw (R.mv (v := (int p_x1)) rfl) ?_
        refine WL.gyes rfl rfl hb7 ?_
        refine WL.valw (R.lss rfl rfl) ?_
        refine WL.valw (R.pickF rfl hb7 rfl) ?_
        exact WL.nil ⟨(orF hb7), (by repeat (first | refine agree_upd rfl ?_ | refine agree_upds' rfl ?_ | exact agree_refl)), rfl⟩
    · intro us
      refine WL.valw (R.mv (v := (boo (((decide (p_ppend < 0)) || (decide (2147483647 < p_ppend))) || (decide (p_x1 < 0))))) rfl) ?_
      refine WL.grp 3 [21, 22] 23 (boo ((((decide (p_ppend < 0)) || (decide (2147483647 < p_ppend))) || (decide (p_x1 < 0))) || (decide (2147483647 < p_x1)))) ?_ ?_
      · rcases boolE (((decide (p_ppend < 0)) || (decide (2147483647 < p_ppend))) || (decide (p_x1 < 0))) with hb9 | hb9
        · refine WL.gno rfl rfl hb9 ?_
          refine WL.gno rfl rfl hb9 ?_
          refine WL.valw (R.pickT rfl hb9 rfl) ?_
          exact WL.nil ⟨(orT hb9), (by repeat (first | refine agree_upd rfl ?_ | refine agree_upds' rfl ?_ | exact agree_refl)), rfl⟩
        · refine WL.gyes rfl rfl hb9 ?_
          refine WL.valw (R.mv (v := (int p_x1)) rfl) ?_
          refine WL.gyes rfl rfl hb9 ?_
          refine WL.valw (R.gtr rfl rfl) ?_
          refine WL.valw (R.pickF rfl hb9 rfl) ?_
          exact WL.nil ⟨(orF hb9), (by repeat (first | refine agree_upd rfl ?_ | refine agree_upds' rfl ?_ | exact agree_refl)), rfl⟩
      · intro us
        refine WL.valw (R.as (v := (boo ((((decide (p_ppend < 0)) || (decide (2147483647 < p_ppend))) || (decide (p_x1 < 0))) || (decide (2147483647 < p_x1))))) rfl) ?_
        refine WL.nil ?_
        rcases condE h with ⟨hc11, h⟩ | ⟨hc11, h⟩
        · refine WP.condT rfl hc11 ?_
          refine WP.seq ?_
          refine WP.region ?_
          refine WL.valw (R.as (v := (boo false)) rfl) ?_
          refine WL.nil ?_
          obtain rfl := Option.some.inj h
          refine WP.ret (Out.one rfl S rfl ?_)
          exact rfl
        · refine WP.condF rfl hc11 ?_
          refine WP.seq ?_
          refine WP.region ?_
          refine WL.valw (R.fieldB rfl fld32_1) ?_
          refine WL.valw (R.loadB (i := 1) (v := (boo p_x2.fNoCache)) S rfl rfl lay4 rfl) ?_
          refine WL.valw (R.mv (v := (boo p_x2.fNoCache)) rfl) ?_
          refine WL.grp 3 [28, 29] 30 (boo (p_x2.fNoCache || p_x3.fNoCache)) ?_ ?_
          · rcases boolE p_x2.fNoCache with hb12 | hb12
            · refine WL.gno rfl rfl hb12 ?_
              refine WL.gno rfl rfl hb12 ?_
              refine WL.valw (R.pickT rfl hb12 rfl) ?_
              exact WL.nil ⟨(orT hb12), (by repeat (first | refine agree_upd rfl ?_ | refine agree_upds' rfl ?_ | exact agree_refl)), rfl⟩
            · refine WL.gyes rfl rfl hb12 ?_
              refine WL.valw (R.fieldB rfl fld32_1) ?_
              refine WL.gyes rfl rfl hb12 ?_
              refine WL.valw (R.loadB (i := 0) (v := (boo p_x3.fNoCache)) S rfl rfl lay4 rfl) ?_
              refine WL.valw (R.pickF rfl hb12 rfl) ?_
              exact WL.nil ⟨(orF hb12), (by repeat (first | refine agree_upd rfl ?_ | refine agree_upds' rfl ?_ | exact agree_refl)), rfl⟩
          · intro us
            refine WL.valw (R.mv (v := (boo (p_x2.fNoCache || p_x3.fNoCache))) rfl) ?_
            refine WL.grp 10 [32, 33, 34, 35, 36, 37, 38, 39, 40] 41 (boo ((p_x2.fNoCache || p_x3.fNoCache) || ((p_x2.fMaxAge != (-1)) && (decide (p_x2.fMaxAge < p_x1))))) ?_ ?_
            · rcases boolE (p_x2.fNoCache || p_x3.fNoCache) with hb14 | hb14
              · refine WL.gno rfl rfl hb14 ?_
                refine WL.gno rfl rfl hb14 ?_
                refine WL.gno rfl rfl hb14 ?_
                refine WL.gno rfl rfl hb14 ?_
                refine WL.gund rfl rfl ?_
                refine WL.gund rfl rfl ?_
                refine WL.gund rfl rfl ?_
                refine WL.gund rfl rfl ?_
                refine WL.gno rfl rfl hb14 ?_
                refine WL.valw (R.pickT rfl hb14 rfl) ?_
                exact WL.nil ⟨(orT hb14), (by repeat (first | refine agree_upd rfl ?_ | refine agree_upds' rfl ?_ | exact agree_refl)), rfl⟩
              · refine WL.gyes rfl rfl hb14 ?_
                refine WL.valw (R.fieldB rfl fld32_7) ?_
                refine WL.gyes rfl rfl hb14 ?_
                refine WL.valw (R.loadB (i := 1) (v := (int p_x2.fMaxAge)) S rfl rfl lay3 rfl) ?_
                refine WL.gyes rfl rfl hb14 ?_
                refine WL.valw (R.neq rfl rfl) ?_
                refine WL.gyes rfl rfl hb14 ?_
                refine WL.valw (R.mv (v := (boo (p_x2.fMaxAge != (-1)))) rfl) ?_
                refine WL.grp 5 [36, 37, 38, 39] 40 (boo ((p_x2.fMaxAge != (-1)) && (decide (p_x2.fMaxAge < p_x1)))) ?_ ?_
                · rcases boolE (p_x2.fMaxAge != (-1)) with hb16 | hb16
                  · refine WL.gyes rfl rfl hb16 ?_
                    refine WL.valw (R.mv (v := (int p_x1)) rfl) ?_
                    refine WL.gyes rfl rfl hb16 ?_
                    refine WL.valw (R.fieldB rfl fld32_7) ?_
                    refine WL.gyes rfl rfl hb16 ?_
                    refine WL.valw (R.loadB (i := 1) (v := (int p_x2.fMaxAge)) S rfl rfl lay3 rfl) ?_
                    refine WL.gyes rfl rfl hb16 ?_
                    refine WL.valw (R.gtr rfl rfl) ?_
                    refine WL.gyes rfl rfl hb14 ?_
                    refine WL.valw (R.pickT rfl hb16 rfl) ?_
                    exact WL.nil ⟨(andT hb16), (by repeat (first | refine agree_upd rfl ?_ | refine agree_upds' rfl ?_ | exact agree_refl)), rfl⟩
                  · refine WL.gno rfl rfl hb16 ?_
                    refine WL.gno rfl rfl hb16 ?_
                    refine WL.gno rfl rfl hb16 ?_
                    refine WL.gno rfl rfl hb16 ?_
                    refine WL.gyes rfl rfl hb14 ?_
                    refine WL.valw (R.pickF rfl hb16 rfl) ?_
                    exact WL.nil ⟨(andF hb16), (by repeat (first | refine agree_upd rfl ?_ | refine agree_upds' rfl ?_ | exact agree_refl)), rfl⟩
                · intro us
                  refine WL.valw (R.pickF rfl hb14 rfl) ?_
                  exact WL.nil ⟨(orF hb14), (by repeat (first | refine agree_upd rfl ?_ | refine agree_upds' rfl ?_ | exact agree_refl)), rfl⟩
            · intro us
              refine WL.valw (R.as (v := (boo ((p_x2.fNoCache || p_x3.fNoCache) || ((p_x2.fMaxAge != (-1)) && (decide (p_x2.fMaxAge < p_x1)))))) rfl) ?_
              refine WL.nil ?_
              rcases condE h with ⟨hc18, h⟩ | ⟨hc18, h⟩
              · refine WP.condT rfl hc18 ?_
                refine WP.seq ?_
                refine WP.region ?_
                refine WL.valw (R.as (v := (boo false)) rfl) ?_
                refine WL.nil ?_
                obtain rfl := Option.some.inj h
                refine WP.ret (Out.one rfl S rfl ?_)
                exact rfl
              · refine WP.condF rfl hc18 ?_
                refine WP.seq ?_
                refine WP.region ?_
                refine WL.valw (R.mv (v := (int p_x1)) rfl) ?_
                refine WL.valw (R.mv (v := (int p_ppend)) rfl) ?_
                refine WL.valw (R.lss rfl rfl) ?_
                refine WL.valw (R.as (v := (boo (decide (p_x1 < p_ppend)))) rfl) ?_
                refine WL.nil ?_
                rcases condE h with ⟨hc19, h⟩ | ⟨hc19, h⟩
                · refine WP.condT rfl hc19 ?_
                  refine WP.seq ?_
                  refine WP.region ?_
                  refine WL.valw (R.fieldB rfl fld32_9) ?_
                  refine WL.valw (R.loadB (i := 1) (v := (int p_x2.fMinFresh)) S rfl rfl lay3 rfl) ?_
                  refine WL.valw (R.eql rfl rfl) ?_
                  refine WL.valw (R.mv (v := (boo (p_x2.fMinFresh == (-1)))) rfl) ?_
                  refine WL.grp 7 [50, 51, 52, 53, 54, 55] 56 (boo ((p_x2.fMinFresh == (-1)) || (decide (p_x2.fMinFresh ≤ (wr (p_ppend - p_x1)))))) ?_ ?_
                  · rcases boolE (p_x2.fMinFresh == (-1)) with hb20 | hb20
                    · refine WL.gno rfl rfl hb20 ?_
                      refine WL.gno rfl rfl hb20 ?_
                      refine WL.gno rfl rfl hb20 ?_
                      refine WL.gno rfl rfl hb20 ?_
                      refine WL.gno rfl rfl hb20 ?_
                      refine WL.gno rfl rfl hb20 ?_
                      refine WL.valw (R.pickT rfl hb20 rfl) ?_
                      exact WL.nil ⟨(orT hb20), (by repeat (first | refine agree_upd rfl ?_ | refine agree_upds' rfl ?_ | exact agree_refl)), rfl⟩
                    · refine WL.gyes rfl rfl hb20 ?_
                      refine WL.valw (R.mv (v := (int p_ppend)) rfl) ?_
                      refine WL.gyes rfl rfl hb20 ?_
                      refine WL.valw (R.mv (v := (int p_x1)) rfl) ?_
                      refine WL.gyes rfl rfl hb20 ?_
                      refine WL.valw (R.sub rfl rfl) ?_
                      refine WL.gyes rfl rfl hb20 ?_
                      refine WL.valw (R.fieldB rfl fld32_9) ?_
                      refine WL.gyes rfl rfl hb20 ?_
                      refine WL.valw (R.loadB (i := 1) (v := (int p_x2.fMinFresh)) S rfl rfl lay3 rfl) ?_
                      refine WL.gyes rfl rfl hb20 ?_
                      refine WL.valw (R.geq rfl rfl) ?_
                      refine WL.valw (R.pickF rfl hb20 rfl) ?_
                      exact WL.nil ⟨(orF hb20), (by repeat (first | refine agree_upd rfl ?_ | refine agree_upds' rfl ?_ | exact agree_refl)), rfl⟩
                  · intro us
                    refine WL.valw (R.as (v := (boo ((p_x2.fMinFresh == (-1)) || (decide (p_x2.fMinFresh ≤ (wr (p_ppend - p_x1))))))) rfl) ?_
                    refine WL.nil ?_
                    obtain rfl := Option.some.inj h
                    refine WP.ret (Out.one rfl S rfl ?_)
                    exact rfl
                · refine WP.condF rfl hc19 ?_
                  refine WP.seq ?_
                  refine WP.region ?_
                  refine WL.valw (R.fieldB rfl fld32_2) ?_
                  refine WL.valw (R.loadB (i := 0) (v := (boo p_x3.fMustRevalidate)) S rfl rfl lay4 rfl) ?_
                  refine WL.valw (R.mv (v := (boo p_x3.fMustRevalidate)) rfl) ?_
                  refine WL.grp 3 [61, 62] 63 (boo (p_x3.fMustRevalidate || p_x3.fProxyRevalidate)) ?_ ?_
                  · rcases boolE p_x3.fMustRevalidate with hb22 | hb22
                    · refine WL.gno rfl rfl hb22 ?_
                      refine WL.gno rfl rfl hb22 ?_
                      refine WL.valw (R.pickT rfl hb22 rfl) ?_
                      exact WL.nil ⟨(orT hb22), (by repeat (first | refine agree_upd rfl ?_ | refine agree_upds' rfl ?_ | exact agree_refl)), rfl⟩
                    · refine WL.gyes rfl rfl hb22 ?_
                      refine WL.valw (R.fieldB rfl fld32_3) ?_
                      refine WL.gyes rfl rfl hb22 ?_
                      refine WL.valw (R.loadB (i := 0) (v := (boo p_x3.fProxyRevalidate)) S rfl rfl lay4 rfl) ?_
                      refine WL.valw (R.pickF rfl hb22 rfl) ?_
                      exact WL.nil ⟨(orF hb22), (by repeat (first | refine agree_upd rfl ?_ | refine agree_upds' rfl ?_ | exact agree_refl)), rfl⟩
                  · intro us
                    refine WL.valw (R.mv (v := (boo (p_x3.fMustRevalidate || p_x3.fProxyRevalidate))) rfl) ?_
                    refine WL.grp 4 [65, 66, 67] 68 (boo ((p_x3.fMustRevalidate || p_x3.fProxyRevalidate) || (p_x3.fSMaxAge != (-1)))) ?_ ?_
                    · rcases boolE (p_x3.fMustRevalidate || p_x3.fProxyRevalidate) with hb24 | hb24
                      · refine WL.gno rfl rfl hb24 ?_
                        refine WL.gno rfl rfl hb24 ?_
                        refine WL.gno rfl rfl hb24 ?_
                        refine WL.valw (R.pickT rfl hb24 rfl) ?_
                        exact WL.nil ⟨(orT hb24), (by repeat (first | refine agree_upd rfl ?_ | refine agree_upds' rfl ?_ | exact agree_refl)), rfl⟩
                      · refine WL.gyes rfl rfl hb24 ?_
                        refine WL.valw (R.fieldB rfl fld32_8) ?_
                        refine WL.gyes rfl rfl hb24 ?_
                        refine WL.valw (R.loadB (i := 0) (v := (int p_x3.fSMaxAge)) S rfl rfl lay3 rfl) ?_
                        refine WL.gyes rfl rfl hb24 ?_
                        refine WL.valw (R.neq rfl rfl) ?_
                        refine WL.valw (R.pickF rfl hb24 rfl) ?_
                        exact WL.nil ⟨(orF hb24), (by repeat (first | refine agree_upd rfl ?_ | refine agree_upds' rfl ?_ | exact agree_refl)), rfl⟩
                    · intro us
                      refine WL.valw (R.mv (v := (boo ((p_x3.fMustRevalidate || p_x3.fProxyRevalidate) || (p_x3.fSMaxAge != (-1))))) rfl) ?_
                      refine WL.grp 4 [70, 71, 72] 73 (boo (((p_x3.fMustRevalidate || p_x3.fProxyRevalidate) || (p_x3.fSMaxAge != (-1))) || (p_x2.fMinFresh != (-1)))) ?_ ?_
                      · rcases boolE ((p_x3.fMustRevalidate || p_x3.fProxyRevalidate) || (p_x3.fSMaxAge != (-1))) with hb26 | hb26
                        · refine WL.gno rfl rfl hb26 ?_
                          refine WL.gno rfl rfl hb26 ?_
                          refine WL.gno rfl rfl hb26 ?_
                          refine WL.valw (R.pickT rfl hb26 rfl) ?_
                          exact WL.nil ⟨(orT hb26), (by repeat (first | refine agree_upd rfl ?_ | refine agree_upds' rfl ?_ | exact agree_refl)), rfl⟩
                        · refine WL.gyes rfl rfl hb26 ?_
                          refine WL.valw (R.fieldB rfl fld32_9) ?_
                          refine WL.gyes rfl rfl hb26 ?_
                          refine WL.valw (R.loadB (i := 1) (v := (int p_x2.fMinFresh)) S rfl rfl lay3 rfl) ?_
                          refine WL.gyes rfl rfl hb26 ?_
                          refine WL.valw (R.neq rfl rfl) ?_
                          refine WL.valw (R.pickF rfl hb26 rfl) ?_
                          exact WL.nil ⟨(orF hb26), (by repeat (first | refine agree_upd rfl ?_ | refine agree_upds' rfl ?_ | exact agree_refl)), rfl⟩
                      · intro us
                        refine WL.valw (R.as (v := (boo (((p_x3.fMustRevalidate || p_x3.fProxyRevalidate) || (p_x3.fSMaxAge != (-1))) || (p_x2.fMinFresh != (-1))))) rfl) ?_
                        refine WL.nil ?_
                        rcases condE h with ⟨hc28, h⟩ | ⟨hc28, h⟩
                        · refine WP.condT rfl hc28 ?_
                          refine WP.seq ?_
                          refine WP.region ?_
                          refine WL.valw (R.as (v := (boo false)) rfl) ?_
                          refine WL.nil ?_
                          obtain rfl := Option.some.inj h
                          refine WP.ret (Out.one rfl S rfl ?_)
                          exact rfl
                        · refine WP.condF rfl hc28 ?_
                          refine WP.skip ?_
                          refine WP.seq ?_
                          refine WP.region ?_
                          refine WL.valw (R.fieldB rfl fld32_10) ?_
                          refine WL.valw (R.loadB (i := 1) (v := (int p_x2.fMaxStale)) S rfl rfl lay3 rfl) ?_
                          refine WL.valw (R.neq rfl rfl) ?_
                          refine WL.valw (R.mv (v := (boo (p_x2.fMaxStale != (-1)))) rfl) ?_
                          refine WL.grp 7 [78, 79, 80, 81, 82, 83] 84 (boo ((p_x2.fMaxStale != (-1)) && (decide ((wr (p_x1 - p_ppend)) ≤ p_x2.fMaxStale)))) ?_ ?_
                          · rcases boolE (p_x2.fMaxStale != (-1)) with hb29 | hb29
                            · refine WL.gyes rfl rfl hb29 ?_
                              refine WL.valw (R.mv (v := (int p_x1)) rfl) ?_
                              refine WL.gyes rfl rfl hb29 ?_
                              refine WL.valw (R.mv (v := (int p_ppend)) rfl) ?_
                              refine WL.gyes rfl rfl hb29 ?_
                              refine WL.valw (R.sub rfl rfl) ?_
                              refine WL.gyes rfl rfl hb29 ?_
                              refine WL.valw (R.fieldB rfl fld32_10) ?_
                              refine WL.gyes rfl rfl hb29 ?_
                              refine WL.valw (R.loadB (i := 1) (v := (int p_x2.fMaxStale)) S rfl rfl lay3 rfl) ?_
                              refine WL.gyes rfl rfl hb29 ?_
                              refine WL.valw (R.leq rfl rfl) ?_
                              refine WL.valw (R.pickT rfl hb29 rfl) ?_
                              exact WL.nil ⟨(andT hb29), (by repeat (first | refine agree_upd rfl ?_ | refine agree_upds' rfl ?_ | exact agree_refl)), rfl⟩
                            · refine WL.gno rfl rfl hb29 ?_
                              refine WL.gno rfl rfl hb29 ?_
                              refine WL.gno rfl rfl hb29 ?_
                              refine WL.gno rfl rfl hb29 ?_
                              refine WL.gno rfl rfl hb29 ?_
                              refine WL.gno rfl rfl hb29 ?_
                              refine WL.valw (R.pickF rfl hb29 rfl) ?_
                              exact WL.nil ⟨(andF hb29), (by repeat (first | refine agree_upd rfl ?_ | refine agree_upds' rfl ?_ | exact agree_refl)), rfl⟩
                          · intro us
                            refine WL.valw (R.as (v := (boo ((p_x2.fMaxStale != (-1)) && (decide ((wr (p_x1 - p_ppend)) ≤ p_x2.fMaxStale))))) rfl) ?_
                            refine WL.nil ?_
                            obtain rfl := Option.some.inj h
                            refine WP.ret (Out.one rfl S rfl ?_)
                            exact rfl
set_option maxRecDepth 10000 in
set_option maxHeartbeats 4000000 in
theorem law23_FreshnessDecides_ok {w0 : World} {H0 : Hp} (hw : Holds w0 H0) (p_lifetime : Int) (p_age : Int) (p_q : GControl) (p_r : GControl) {r : Bool} (h : law23_FreshnessDecides p_lifetime p_age p_q p_r = some r) :
    Con Tryd.prog 10 [(int p_lifetime), (int p_age), (agg [(boo p_q.fNoStore), (boo p_q.fNoCache), (boo p_q.fMustRevalidate), (boo p_q.fProxyRevalidate), (boo p_q.fPrivate), (boo p_q.fPublic), (boo p_q.fOnlyIfCached), (int p_q.fMaxAge), (int p_q.fSMaxAge), (int p_q.fMinFresh), (int p_q.fMaxStale)]), (agg [(boo p_r.fNoStore), (boo p_r.fNoCache), (boo p_r.fMustRevalidate), (boo p_r.fProxyRevalidate), (boo p_r.fPrivate), (boo p_r.fPublic), (boo p_r.fOnlyIfCached), (int p_r.fMaxAge), (int p_r.fSMaxAge), (int p_r.fMinFresh), (int p_r.fMaxStale)])] w0 H0 (fun H' v => v = (boo r)) := by
  refine Con.mk (N := 23) Tryd.func10 rfl rfl (by kernel_rfl) rfl ?_
  have S := St.start hw
  refine WP.seq ?_
  refine WP.region ?_
  refine W.box [(boo p_q.fNoStore), (boo p_q.fNoCache), (boo p_q.fMustRevalidate), (boo p_q.fProxyRevalidate), (boo p_q.fPrivate), (boo p_q.fPublic), (boo p_q.fOnlyIfCached), (int p_q.fMaxAge), (int p_q.fSMaxAge), (int p_q.fMinFresh), (int p_q.fMaxStale)] S rfl rfl ?_
  intro b1 w2 S
  refine W.box [(boo p_r.fNoStore), (boo p_r.fNoCache), (boo p_r.fMustRevalidate), (boo p_r.fProxyRevalidate), (boo p_r.fPrivate), (boo p_r.fPublic), (boo p_r.fOnlyIfCached), (int p_r.fMaxAge), (int p_r.fSMaxAge), (int p_r.fMinFresh), (int p_r.fMaxStale)] S rfl rfl ?_
  intro b3 w4 S
  refine WL.valw (R.as (v := (boo false)) rfl) ?_
  refine WL.nil ?_
  refine WP.seq ?_
  refine WP.quiet S (by kernel_rfl) (by kernel_rfl) ?_
  refine WQ.val (fun _ _ => (R.mv (v := (int p_lifetime)) rfl)) ?_
  refine WQ.val (fun _ _ => (R.mv (v := (int p_age)) rfl)) ?_
  refine WQ.val (fun w hw => by obtain ⟨_, hq, S⟩ := hw; exact (R.loadBN (i := 1) (vs := [(boo p_q.fNoStore), (boo p_q.fNoCache), (boo p_q.fMustRevalidate), (boo p_q.fProxyRevalidate), (boo p_q.fPrivate), (boo p_q.fPublic), (boo p_q.fOnlyIfCached), (int p_q.fMaxAge), (int p_q.fSMaxAge), (int p_q.fMinFresh), (int p_q.fMaxStale)]) S rfl rfl lay32 rfl rfl)) ?_
  refine WQ.val (fun w hw => by obtain ⟨_, hq, S⟩ := hw; exact (R.loadBN (i := 0) (vs := [(boo p_r.fNoStore), (boo p_r.fNoCache), (boo p_r.fMustRevalidate), (boo p_r.fProxyRevalidate), (boo p_r.fPrivate), (boo p_r.fPublic), (boo p_r.fOnlyIfCached), (int p_r.fMaxAge), (int p_r.fSMaxAge), (int p_r.fMinFresh), (int p_r.fMaxStale)]) S rfl rfl lay32 rfl rfl)) ?_
  obtain ⟨r8, hr8, h⟩ := bindE h
  refine WQ.call (v := (boo r8)) rfl (fun w H' hq S => freshness_Fresh_ok S.holds p_lifetime p_age p_q p_r hr8) ?_
  refine WQ.val (fun _ _ => (R.mv (v := (int p_lifetime)) rfl)) ?_
  refine WQ.val (fun _ _ => (R.mv (v := (int p_age)) rfl)) ?_
  refine WQ.val (fun w hw => by obtain ⟨_, hq, S⟩ := hw; exact (R.loadBN (i := 1) (vs := [(boo p_q.fNoStore), (boo p_q.fNoCache), (boo p_q.fMustRevalidate), (boo p_q.fProxyRevalidate), (boo p_q.fPrivate), (boo p_q.fPublic), (boo p_q.fOnlyIfCached), (int p_q.fMaxAge), (int p_q.fSMaxAge), (int p_q.fMinFresh), (int p_q.fMaxStale)]) S rfl rfl lay32 rfl rfl)) ?_
  refine WQ.val (fun w hw => by obtain ⟨_, hq, S⟩ := hw; exact (R.loadBN (i := 0) (vs := [(boo p_r.fNoStore), (boo p_r.fNoCache), (boo p_r.fMustRevalidate), (boo p_r.fProxyRevalidate), (boo p_r.fPrivate), (boo p_r.fPublic), (boo p_r.fOnlyIfCached), (int p_r.fMaxAge), (int p_r.fSMaxAge), (int p_r.fMinFresh), (int p_r.fMaxStale)]) S rfl rfl lay32 rfl rfl)) ?_
  obtain ⟨r13, hr13, h⟩ := bindE h
  refine WQ.call (v := (boo r13)) rfl (fun w H' hq S => ref19_Fresh_ok S.holds p_lifetime p_age p_q p_r hr13) ?_
  refine WQ.val (fun _ _ => (R.eqlB rfl rfl Tryd.underlying4)) ?_
  refine WQ.val (fun _ _ => (R.mv (v := (boo (r8 == r13))) rfl)) ?_
  obtain ⟨b25, hg19, h⟩ := bindE h
  refine WQ.grp 2 [21] 22 (boo b25) ?_ ?_
  · rcases boolE (r8 == r13) with hb18 | hb18
    · replace hg19 := condT hg19 hb18
      refine WQ.gyes rfl rfl hb18 ?_
      obtain ⟨r20, hr20, hg19⟩ := bindE hg19
      refine WQ.call (v := (boo r20)) rfl (fun w H' hq S => law23_awake_ok S.holds  hr20) ?_
      refine WQ.val (fun _ _ => (R.pickT rfl hb18 rfl)) ?_
      exact WQ.nil ⟨(congrArg boo (Option.some.inj hg19)), (by repeat (first | refine agree_upd rfl ?_ | refine agree_upds' rfl ?_ | exact agree_refl))⟩
    · replace hg19 := condF hg19 hb18
      refine WQ.gno rfl rfl hb18 ?_
      refine WQ.val (fun _ _ => (R.pickF rfl hb18 rfl)) ?_
      exact WQ.nil ⟨(congrArg boo (Option.some.inj hg19)), (by repeat (first | refine agree_upd rfl ?_ | refine agree_upds' rfl ?_ | exact agree_refl))⟩
  · intro us
    refine WQ.val (fun _ _ => (R.as (v := (boo b25)) rfl)) ?_
    refine WQ.nil ?_
    intro w5 H6 hle7 S
    obtain rfl := Option.some.inj h
    refine WP.ret (Out.one rfl S rfl ?_)
    exact rfl
set_option maxRecDepth 10000 in
set_option maxHeartbeats 4000000 in
theorem law23_FreshnessGrows_ok {w0 : World} {H0 : Hp} (hw : Holds w0 H0) (p_ppend : (List GField)) (p_x1 : Int) (p_x2 : Int) (p_x3 : Int) (p_x4 : Int) {vp_ppend : Value} (Rp_ppend : Sl (α := GField) H0 vp_ppend p_ppend) {r : Bool} (h : law23_FreshnessGrows p_ppend p_x1 p_x2 p_x3 p_x4 = some r) :
    Con Tryd.prog 11 [vp_ppend, (int p_x1), (int p_x2), (int p_x3), (int p_x4)] w0 H0 (fun H' v => v = (boo r)) := by
  refine Con.mk (N := 77) Tryd.func11 rfl rfl (by kernel_rfl) rfl ?_
  have S := St.start hw
  refine WP.seq ?_
  refine WP.region ?_
  refine WL.valw (R.as (v := (boo false)) rfl) ?_
  refine WL.nil ?_
  refine WP.seq ?_
  refine WP.seq ?_
  refine WP.region ?_
  refine WL.valw (R.mv (v := vp_ppend) rfl) ?_
  obtain ⟨r1, hr1, h⟩ := bindE h
  refine W.call S rfl (keep_Fields_ok S.holds p_ppend Rp_ppend hr1) ?_
  rintro v2 w3 H4 hle5 S rfl
  have Rp_ppend := Sl.mono Rp_ppend hle5
  refine WL.valw (R.not rfl) ?_
  refine WL.valw (R.mv (v := (boo (!r1))) rfl) ?_
  refine WL.grp 3 [17, 18] 19 (boo ((!r1) || (decide (p_x1 < 0)))) ?_ ?_
  · rcases boolE (!r1) with hb6 | hb6
    · refine WL.gno rfl rfl hb6 ?_
      refine WL.gno rfl rfl hb6 ?_
      refine WL.valw (R.pickT rfl hb6 rfl) ?_
      exact WL.nil ⟨(orT hb6), (by repeat (first | refine agree_upd rfl ?_ | refine agree_upds' rfl ?_ | exact agree_refl)), rfl⟩
    · refine WL.gyes rfl rfl hb6 ?_
      refine WL.valw (R.mv (v := (int p_x1)) rfl) ?_
      refine WL.gyes rfl rfl hb6 ?_
      refine WL.valw (R.lss rfl rfl) ?_
      refine WL.valw (R.pickF rfl hb6 rfl) ?_
      exact WL.nil ⟨(orF hb6), (by repeat (first | refine agree_upd rfl ?_ | refine agree_upds' rfl ?_ | exact agree_refl)), rfl⟩
  · intro us
    refine WL.valw (R.mv (v := (boo ((!r1) || (decide (p_x1 < 0))))) rfl) ?_
    refine WL.grp 4 [21, 22, 23] 24 (boo (((!r1) || (decide (p_x1 < 0))) || (decide (p_x2 < p_x1)))) ?_ ?_
    · rcases boolE ((!r1) || (decide (p_x1 < 0))) with hb8 | hb8
      · refine WL.gno rfl rfl hb8 ?_
        refine WL.gno rfl rfl hb8 ?_
        refine WL.gno rfl rfl hb8 ?_
        refine WL.valw (R.pickT rfl hb8 rfl) ?_
        exact WL.nil ⟨(orT hb8), (by repeat (first | refine agree_upd rfl ?_ | refine agree_upds' rfl ?_ | exact agree_refl)), rfl⟩
      · refine WL.gyes rfl rfl hb8 ?_
        refine WL.valw (R.mv (v := (int p_x1)) rfl) ?_
        refine WL.gyes rfl rfl hb8 ?_
        refine WL.valw (R.mv (v := (int p_x2)) rfl) ?_
        refine WL.gyes rfl rfl hb8 ?_
        refine WL.valw (R.gtr rfl rfl) ?_
        refine WL.valw (R.pickF rfl hb8 rfl) ?_
        exact WL.nil ⟨(orF hb8), (by repeat (first | refine agree_upd rfl ?_ | refine agree_upds' rfl ?_ | exact agree_refl)), rfl⟩
    · intro us
      refine WL.valw (R.mv (v := (boo (((!r1) || (decide (p_x1 < 0))) || (decide (p_x2 < p_x1))))) rfl) ?_
      refine WL.grp 4 [26, 27, 28] 29 (boo ((((!r1) || (decide (p_x1 < 0))) || (decide (p_x2 < p_x1))) || (decide (p_x3 < p_x2)))) ?_ ?_
      · rcases boolE (((!r1) || (decide (p_x1 < 0))) || (decide (p_x2 < p_x1))) with hb10 | hb10
        · refine WL.gno rfl rfl hb10 ?_
          refine WL.gno rfl rfl hb10 ?_
          refine WL.gno rfl rfl hb10 ?_
          refine WL.valw (R.pickT rfl hb10 rfl) ?_
          exact WL.nil ⟨(orT hb10), (by repeat (first | refine agree_upd rfl ?_ | refine agree_upds' rfl ?_ | exact agree_refl)), rfl⟩
        · refine WL.gyes rfl rfl hb10 ?_
          refine WL.valw (R.mv (v := (int p_x2)) rfl) ?_
          refine WL.gyes rfl rfl hb10 ?_
          refine WL.valw (R.mv (v := (int p_x3)) rfl) ?_
          refine WL.gyes rfl rfl hb10 ?_
          refine WL.valw (R.gtr rfl rfl) ?_
          refine WL.valw (R.pickF rfl hb10 rfl) ?_
          exact WL.nil ⟨(orF hb10), (by repeat (first | refine agree_upd rfl ?_ | refine agree_upds' rfl ?_ | exact agree_refl)), rfl⟩
      · intro us
        refine WL.valw (R.mv (v := (boo ((((!r1) || (decide (p_x1 < 0))) || (decide (p_x2 < p_x1))) || (decide (p_x3 < p_x2))))) rfl) ?_
        refine WL.grp 3 [31, 32] 33 (boo (((((!r1) || (decide (p_x1 < 0))) || (decide (p_x2 < p_x1))) || (decide (p_x3 < p_x2))) || (decide (1099511627776 < p_x3)))) ?_ ?_
        · rcases boolE ((((!r1) || (decide (p_x1 < 0))) || (decide (p_x2 < p_x1))) || (decide (p_x3 < p_x2))) with hb12 | hb12
          · refine WL.gno rfl rfl hb12 ?_
            refine WL.gno rfl rfl hb12 ?_
            refine WL.valw (R.pickT rfl hb12 rfl) ?_
            exact WL.nil ⟨(orT hb12), (by repeat (first | refine agree_upd rfl ?_ | refine agree_upds' rfl ?_ | exact agree_refl)), rfl⟩
          · refine WL.gyes rfl rfl hb12 ?_
            refine WL.valw (R.mv (v := (int p_x3)) rfl) ?_
            refine WL.gyes rfl rfl hb12 ?_
            refine WL.valw (R.gtr rfl rfl) ?_
            refine WL.valw (R.pickF rfl hb12 rfl) ?_
            exact WL.nil ⟨(orF hb12), (by repeat (first | refine agree_upd rfl ?_ | refine agree_upds' rfl ?_ | exact agree_refl)), rfl⟩
        · intro us
          refine WL.valw (R.mv (v := (boo (((((!r1) || (decide (p_x1 < 0))) || (decide (p_x2 < p_x1))) || (decide (p_x3 < p_x2))) || (decide (1099511627776 < p_x3))))) rfl) ?_
          refine WL.grp 3 [35, 36] 37 (boo ((((((!r1) || (decide (p_x1 < 0))) || (decide (p_x2 < p_x1))) || (decide (p_x3 < p_x2))) || (decide (1099511627776 < p_x3))) || (decide (p_x4 < 0)))) ?_ ?_
          · rcases boolE (((((!r1) || (decide (p_x1 < 0))) || (decide (p_x2 < p_x1))) || (decide (p_x3 < p_x2))) || (decide (1099511627776 < p_x3))) with hb14 | hb14
            · refine WL.gno rfl rfl hb14 ?_
              refine WL.gno rfl rfl hb14 ?_
              refine WL.valw (R.pickT rfl hb14 rfl) ?_
              exact WL.nil ⟨(orT hb14), (by repeat (first | refine agree_upd rfl ?_ | refine agree_upds' rfl ?_ | exact agree_refl)), rfl⟩
            · refine WL.gyes rfl rfl hb14 ?_
              refine WL.valw (R.mv (v := (int p_x4)) rfl) ?_
              refine WL.gyes rfl rfl hb14 ?_
              refine WL.valw (R.lss rfl rfl) ?_
              refine WL.valw (R.pickF rfl hb14 rfl) ?_
              exact WL.nil ⟨(orF hb14), (by repeat (first | refine agree_upd rfl ?_ | refine agree_upds' rfl ?_ | exact agree_refl)), rfl⟩
          · intro us
            refine WL.valw (R.mv (v := (boo ((((((!r1) || (decide (p_x1 < 0))) || (decide (p_x2 < p_x1))) || (decide (p_x3 < p_x2))) || (decide (1099511627776 < p_x3))) || (decide (p_x4 < 0))))) rfl) ?_
            refine WL.grp 5 [39, 40, 41, 42] 43 (boo (((((((!r1) || (decide (p_x1 < 0))) || (decide (p_x2 < p_x1))) || (decide (p_x3 < p_x2))) || (decide (1099511627776 < p_x3))) || (decide (p_x4 < 0))) || (decide ((wr (1099511627776 - p_x3)) < p_x4)))) ?_ ?_
            · rcases boolE ((((((!r1) || (decide (p_x1 < 0))) || (decide (p_x2 < p_x1))) || (decide (p_x3 < p_x2))) || (decide (1099511627776 < p_x3))) || (decide (p_x4 < 0))) with hb16 | hb16
              · refine WL.gno rfl rfl hb16 ?_
                refine WL.gno rfl rfl hb16 ?_
                refine WL.gno rfl rfl hb16 ?_
                refine WL.gno rfl rfl hb16 ?_
                refine WL.valw (R.pickT rfl hb16 rfl) ?_
                exact WL.nil ⟨(orT hb16), (by repeat (first | refine agree_upd rfl ?_ | refine agree_upds' rfl ?_ | exact agree_refl)), rfl⟩
              · refine WL.gyes rfl rfl hb16 ?_
                refine WL.valw (R.mv (v := (int p_x4)) rfl) ?_
                refine WL.gyes rfl rfl hb16 ?_
                refine WL.valw (R.mv (v := (int p_x3)) rfl) ?_
                refine WL.gyes rfl rfl hb16 ?_
                refine WL.valw (R.sub rfl rfl) ?_
                refine WL.gyes rfl rfl hb16 ?_
                refine WL.valw (R.gtr rfl rfl) ?_
                refine WL.valw (R.pickF rfl hb16 rfl) ?_
                exact WL.nil ⟨(orF hb16), (by repeat (first | refine agree_upd rfl ?_ | refine agree_upds' rfl ?_ | exact agree_refl)), rfl⟩
            · intro us
              refine WL.nil ?_
              rcases condE h with ⟨hc18, h⟩ | ⟨hc18, h⟩
              · refine WP.condT rfl hc18 ?_
                refine WP.seq ?_
                refine WP.region ?_
                refine WL.valw (R.as (v := (boo true)) rfl) ?_
                refine WL.nil ?_
                obtain rfl := Option.some.inj h
                refine WP.ret (Out.one rfl S rfl ?_)
                exact rfl
              · refine WP.condF rfl hc18 ?_
                refine WP.skip ?_
                refine WP.seq ?_
                refine WP.region ?_
                refine WL.valw (R.mv (v := vp_ppend) rfl) ?_
                refine WL.valw (R.mv (v := (int p_x1)) rfl) ?_
                refine WL.valw (R.mv (v := (int p_x2)) rfl) ?_
                refine WL.valw (R.mv (v := (int p_x3)) rfl) ?_
                obtain ⟨r19, hr19, h⟩ := bindE h
                refine W.call S rfl (freshness_Age_ok S.holds p_ppend p_x1 p_x2 p_x3 Rp_ppend hr19) ?_
                rintro v20 w21 H22 hle23 S rfl
                have Rp_ppend := Sl.mono Rp_ppend hle23
                refine WL.valw (R.mv (v := vp_ppend) rfl) ?_
                refine WL.valw (R.mv (v := (int p_x1)) rfl) ?_
                refine WL.valw (R.mv (v := (int p_x2)) rfl) ?_
                refine WL.valw (R.mv (v := (int p_x3)) rfl) ?_
                refine WL.valw (R.mv (v := (int p_x4)) rfl) ?_
                refine WL.valw (R.add rfl rfl) ?_
                obtain ⟨r24, hr24, h⟩ := bindE h
                refine W.call S rfl (freshness_Age_ok S.holds p_ppend p_x1 p_x2 (wr (p_x3 + p_x4)) Rp_ppend hr24) ?_
                rintro v25 w26 H27 hle28 S rfl
                have Rp_ppend := Sl.mono Rp_ppend hle28
                refine WL.valw (R.as (v := (int r19)) rfl) ?_
                refine WL.valw (R.as (v := (int r24)) rfl) ?_
                refine WL.nil ?_
                refine WP.seq ?_
                refine WP.region ?_
                refine WL.valw (R.mv (v := (int r24)) rfl) ?_
                refine WL.valw (R.mv (v := (int r19)) rfl) ?_
                refine WL.valw (R.mv (v := (int p_x4)) rfl) ?_
                refine WL.valw (R.add rfl rfl) ?_
                refine WL.valw (R.min rfl rfl) ?_
                refine WL.valw (R.eql rfl rfl) ?_
                refine WL.valw (R.mv (v := (boo (r24 == (if 2147483647 < (wr (r19 + p_x4)) then 2147483647 else (wr (r19 + p_x4)))))) rfl) ?_
                refine WL.grp 7 [63, 64, 65, 66, 67, 68] 69 (boo ((r24 == (if 2147483647 < (wr (r19 + p_x4)) then 2147483647 else (wr (r19 + p_x4)))) && (decide ((if 2147483647 < (wr (p_x3 - p_x2)) then 2147483647 else (wr (p_x3 - p_x2))) ≤ r19)))) ?_ ?_
                · rcases boolE (r24 == (if 2147483647 < (wr (r19 + p_x4)) then 2147483647 else (wr (r19 + p_x4)))) with hb29 | hb29
                  · refine WL.gyes rfl rfl hb29 ?_
                    refine WL.valw (R.mv (v := (int r19)) rfl) ?_
                    refine WL.gyes rfl rfl hb29 ?_
                    refine WL.valw (R.mv (v := (int p_x3)) rfl) ?_
                    refine WL.gyes rfl rfl hb29 ?_
                    refine WL.valw (R.mv (v := (int p_x2)) rfl) ?_
                    refine WL.gyes rfl rfl hb29 ?_
                    refine WL.valw (R.sub rfl rfl) ?_
                    refine WL.gyes rfl rfl hb29 ?_
                    refine WL.valw (R.min rfl rfl) ?_
                    refine WL.gyes rfl rfl hb29 ?_
                    refine WL.valw (R.geq rfl rfl) ?_
                    refine WL.valw (R.pickT rfl hb29 rfl) ?_
                    exact WL.nil ⟨(andT hb29), (by repeat (first | refine agree_upd rfl ?_ | refine agree_upds' rfl ?_ | exact agree_refl)), rfl⟩
                  · refine WL.gno rfl rfl hb29 ?_
                    refine WL.gno rfl rfl hb29 ?_
                    refine WL.gno rfl rfl hb29 ?_
                    refine WL.gno rfl rfl hb29 ?_
                    refine WL.gno rfl rfl hb29 ?_
                    refine WL.gno rfl rfl hb29 ?_
                    refine WL.valw (R.pickF rfl hb29 rfl) ?_
                    exact WL.nil ⟨(andF hb29), (by repeat (first | refine agree_upd rfl ?_ | refine agree_upds' rfl ?_ | exact agree_refl)), rfl⟩
                · intro us
                  refine WL.valw (R.mv (v := (boo ((r24 == (if 2147483647 < (wr (r19 + p_x4)) then 2147483647 else (wr (r19 + p_x4)))) && (decide ((if 2147483647 < (wr (p_x3 - p_x2)) then 2147483647 else (wr (p_x3 - p_x2))) ≤ r19))))) rfl) ?_
                  refine WL.grp 3 [71, 72] 73 (boo (((r24 == (if 2147483647 < (wr (r19 + p_x4)) then 2147483647 else (wr (r19 + p_x4)))) && (decide ((if 2147483647 < (wr (p_x3 - p_x2)) then 2147483647 else (wr (p_x3 - p_x2))) ≤ r19))) && (decide (r19 ≤ 2147483647)))) ?_ ?_
                  · rcases boolE ((r24 == (if 2147483647 < (wr (r19 + p_x4)) then 2147483647 else (wr (r19 + p_x4)))) && (decide ((if 2147483647 < (wr (p_x3 - p_x2)) then 2147483647 else (wr (p_x3 - p_x2))) ≤ r19))) with hb31 | hb31
                    · refine WL.gyes rfl rfl hb31 ?_
                      refine WL.valw (R.mv (v := (int r19)) rfl) ?_
                      refine WL.gyes rfl rfl hb31 ?_
                      refine WL.valw (R.leq rfl rfl) ?_
                      refine WL.valw (R.pickT rfl hb31 rfl) ?_
                      exact WL.nil ⟨(andT hb31), (by repeat (first | refine agree_upd rfl ?_ | refine agree_upds' rfl ?_ | exact agree_refl)), rfl⟩
                    · refine WL.gno rfl rfl hb31 ?_
                      refine WL.gno rfl rfl hb31 ?_
                      refine WL.valw (R.pickF rfl hb31 rfl) ?_
                      exact WL.nil ⟨(andF hb31), (by repeat (first | refine agree_upd rfl ?_ | refine agree_upds' rfl ?_ | exact agree_refl)), rfl⟩
                  · intro us
                    refine WL.valw (R.mv (v := (boo (((r24 == (if 2147483647 < (wr (r19 + p_x4)) then 2147483647 else (wr (r19 + p_x4)))) && (decide ((if 2147483647 < (wr (p_x3 - p_x2)) then 2147483647 else (wr (p_x3 - p_x2))) ≤ r19))) && (decide (r19 ≤ 2147483647))))) rfl) ?_
                    obtain ⟨b40, hg34, h⟩ := bindE h
                    refine WL.grpw 2 [75] 76 (boo b40) (fun w => ∃ H' : Hp, H27.le H' ∧ St w0 H0 w H' []) ?_ ?_
                    · rcases boolE (((r24 == (if 2147483647 < (wr (r19 + p_x4)) then 2147483647 else (wr (r19 + p_x4)))) && (decide ((if 2147483647 < (wr (p_x3 - p_x2)) then 2147483647 else (wr (p_x3 - p_x2))) ≤ r19))) && (decide (r19 ≤ 2147483647))) with hb33 | hb33
                      · replace hg34 := condT hg34 hb33
                        refine WL.gyes rfl rfl hb33 ?_
                        obtain ⟨r35, hr35, hg34⟩ := bindE hg34
                        refine W.call S rfl (law23_awake_ok S.holds  hr35) ?_
                        rintro v36 w37 H38 hle39 S rfl
                        have Rp_ppend := Sl.mono Rp_ppend hle39
                        refine WL.valw (R.pickT rfl hb33 rfl) ?_
                        exact WL.nil ⟨(congrArg boo (Option.some.inj hg34)), (by repeat (first | refine agree_upd rfl ?_ | refine agree_upds' rfl ?_ | exact agree_refl)), ⟨H38, hle39, S⟩⟩
                      · replace hg34 := condF hg34 hb33
                        refine WL.gno rfl rfl hb33 ?_
                        refine WL.valw (R.pickF rfl hb33 rfl) ?_
                        exact WL.nil ⟨(congrArg boo (Option.some.inj hg34)), (by repeat (first | refine agree_upd rfl ?_ | refine agree_upds' rfl ?_ | exact agree_refl)), ⟨H27, (Hp.le.refl _), S⟩⟩
                    · intro us w42 ⟨H41, hle43, S⟩
                      have Rp_ppend := Sl.mono Rp_ppend hle43
                      refine WL.valw (R.as (v := (boo b40)) rfl) ?_
                      refine WL.nil ?_
                      obtain rfl := Option.some.inj h
                      refine WP.ret (Out.one rfl S rfl ?_)
                      exact rfl
set_option maxRecDepth 10000 in
set_option maxHeartbeats 4000000 in
theorem law23_FreshnessFalls_ok {w0 : World} {H0 : Hp} (hw : Holds w0 H0) (p_lifetime : Int) (p_age : Int) (p_older : Int) (p_q : GControl) (p_r : GControl) {r : Bool} (h : law23_FreshnessFalls p_lifetime p_age p_older p_q p_r = some r) :
    Con Tryd.prog 12 [(int p_lifetime), (int p_age), (int p_older), (agg [(boo p_q.fNoStore), (boo p_q.fNoCache), (boo p_q.fMustRevalidate), (boo p_q.fProxyRevalidate), (boo p_q.fPrivate), (boo p_q.fPublic), (boo p_q.fOnlyIfCached), (int p_q.fMaxAge), (int p_q.fSMaxAge), (int p_q.fMinFresh), (int p_q.fMaxStale)]), (agg [(boo p_r.fNoStore), (boo p_r.fNoCache), (boo p_r.fMustRevalidate), (boo p_r.fProxyRevalidate), (boo p_r.fPrivate), (boo p_r.fPublic), (boo p_r.fOnlyIfCached), (int p_r.fMaxAge), (int p_r.fSMaxAge), (int p_r.fMinFresh), (int p_r.fMaxStale)])] w0 H0 (fun H' v => v = (boo r)) := by
  refine Con.mk (N := 38) Tryd.func12 rfl rfl (by kernel_rfl) rfl ?_
  have S := St.start hw
  refine WP.seq ?_
  refine WP.region ?_
  refine W.box [(boo p_q.fNoStore), (boo p_q.fNoCache), (boo p_q.fMustRevalidate), (boo p_q.fProxyRevalidate), (boo p_q.fPrivate), (boo p_q.fPublic), (boo p_q.fOnlyIfCached), (int p_q.fMaxAge), (int p_q.fSMaxAge), (int p_q.fMinFresh), (int p_q.fMaxStale)] S rfl rfl ?_
  intro b1 w2 S
  refine W.box [(boo p_r.fNoStore), (boo p_r.fNoCache), (boo p_r.fMustRevalidate), (boo p_r.fProxyRevalidate), (boo p_r.fPrivate), (boo p_r.fPublic), (boo p_r.fOnlyIfCached), (int p_r.fMaxAge), (int p_r.fSMaxAge), (int p_r.fMinFresh), (int p_r.fMaxStale)] S rfl rfl ?_
  intro b3 w4 S
  refine WL.valw (R.as (v := (boo false)) rfl) ?_
  refine WL.nil ?_
  refine WP.seq ?_
  refine WP.seq ?_
  refine WP.region ?_
  refine WL.valw (R.mv (v := (int p_age)) rfl) ?_
  refine WL.valw (R.lss rfl rfl) ?_
  refine WL.valw (R.mv (v := (boo (decide (p_age < 0)))) rfl) ?_
  refine WL.grp 4 [14, 15, 16] 17 (boo ((decide (p_age < 0)) || (decide (p_older < p_age)))) ?_ ?_
  · rcases boolE (decide (p_age < 0)) with hb5 | hb5
    · refine WL.gno rfl rfl hb5 ?_
      refine WL.gno rfl rfl hb5 ?_
      refine WL.gno rfl rfl hb5 ?_
      refine WL.valw (R.pickT rfl hb5 rfl) ?_
      exact WL.nil ⟨(orT hb5), (by repeat (first | refine agree_upd rfl ?_ | refine agree_upds' rfl ?_ | exact agree_refl)), rfl⟩
    · refine WL.gyes rfl rfl hb5 ?_
      refine WL.valw (R.mv (v := (int p_older)) rfl) ?_
      refine WL.gyes rfl rfl hb5 ?_
      refine WL.valw (R.mv (v := (int p_age)) rfl) ?_
      refine WL.gyes rfl rfl hb5 ?_
      refine WL.valw (R.lss rfl rfl) ?_
      refine WL.valw (R.pickF rfl hb5 rfl) ?_
      exact WL.nil ⟨(orF hb5), (by repeat (first | refine agree_upd rfl ?_ | refine agree_upds' rfl ?_ | exact agree_refl)), rfl⟩
  · intro us
    refine WL.valw (R.mv (v := (boo ((decide (p_age < 0)) || (decide (p_older < p_age))))) rfl) ?_
    refine WL.grp 3 [19, 20] 21 (boo (((decide (p_age < 0)) || (decide (p_older < p_age))) || (decide (p_lifetime < 0)))) ?_ ?_
    · rcases boolE ((decide (p_age < 0)) || (decide (p_older < p_age))) with hb7 | hb7
      · refine WL.gno rfl rfl hb7 ?_
        refine WL.gno rfl rfl hb7 ?_
        refine WL.valw (R.pickT rfl hb7 rfl) ?_
        exact WL.nil ⟨(orT hb7), (by repeat (first | refine agree_upd rfl ?_ | refine agree_upds' rfl ?_ | exact agree_refl)), rfl⟩
      · refine WL.gyes rfl rfl hb7 ?_
        refine WL.valw (R.mv (v := (int p_lifetime)) rfl) ?_
        refine WL.gyes rfl rfl hb7 ?_
        refine WL.valw (R.lss rfl rfl) ?_
        refine WL.valw (R.pickF rfl hb7 rfl) ?_
        exact WL.nil ⟨(orF hb7), (by repeat (first | refine agree_upd rfl ?_ | refine agree_upds' rfl ?_ | exact agree_refl)), rfl⟩
    · intro us
      refine WL.nil ?_
      rcases condE h with ⟨hc9, h⟩ | ⟨hc9, h⟩
      · refine WP.condT rfl hc9 ?_
        refine WP.seq ?_
        refine WP.region ?_
        refine WL.valw (R.as (v := (boo true)) rfl) ?_
        refine WL.nil ?_
        obtain rfl := Option.some.inj h
        refine WP.ret (Out.one rfl S rfl ?_)
        exact rfl
      · refine WP.condF rfl hc9 ?_
        refine WP.skip ?_
        refine WP.seq ?_
        refine WP.region ?_
        refine WL.valw (R.mv (v := (int p_lifetime)) rfl) ?_
        refine WL.valw (R.mv (v := (int p_older)) rfl) ?_
        refine WL.valw (R.loadBN (i := 1) (vs := [(boo p_q.fNoStore), (boo p_q.fNoCache), (boo p_q.fMustRevalidate), (boo p_q.fProxyRevalidate), (boo p_q.fPrivate), (boo p_q.fPublic), (boo p_q.fOnlyIfCached), (int p_q.fMaxAge), (int p_q.fSMaxAge), (int p_q.fMinFresh), (int p_q.fMaxStale)]) S rfl rfl lay32 rfl rfl) ?_
        refine WL.valw (R.loadBN (i := 0) (vs := [(boo p_r.fNoStore), (boo p_r.fNoCache), (boo p_r.fMustRevalidate), (boo p_r.fProxyRevalidate), (boo p_r.fPrivate), (boo p_r.fPublic), (boo p_r.fOnlyIfCached), (int p_r.fMaxAge), (int p_r.fSMaxAge), (int p_r.fMinFresh), (int p_r.fMaxStale)]) S rfl rfl lay32 rfl rfl) ?_
        obtain ⟨r10, hr10, h⟩ := bindE h
        refine W.call S rfl (freshness_Fresh_ok S.holds p_lifetime p_older p_q p_r hr10) ?_
        rintro v11 w12 H13 hle14 S rfl
        refine WL.valw (R.not rfl) ?_
        refine WL.valw (R.mv (v := (boo (!r10))) rfl) ?_
        obtain ⟨b22, hg16, h⟩ := bindE h
        refine WL.grpw 6 [29, 30, 31, 32, 33] 34 (boo b22) (fun w => ∃ H' : Hp, H13.le H' ∧ St w0 H0 w H' [.box b3 32 [(boo p_r.fNoStore), (boo p_r.fNoCache), (boo p_r.fMustRevalidate), (boo p_r.fProxyRevalidate), (boo p_r.fPrivate), (boo p_r.fPublic), (boo p_r.fOnlyIfCached), (int p_r.fMaxAge), (int p_r.fSMaxAge), (int p_r.fMinFresh), (int p_r.fMaxStale)], .box b1 32 [(boo p_q.fNoStore), (boo p_q.fNoCache), (boo p_q.fMustRevalidate), (boo p_q.fProxyRevalidate), (boo p_q.fPrivate), (boo p_q.fPublic), (boo p_q.fOnlyIfCached), (int p_q.fMaxAge), (int p_q.fSMaxAge), (int p_q.fMinFresh), (int p_q.fMaxStale)]]) ?_ ?_
        · rcases boolE (!r10) with hb15 | hb15
          · replace hg16 := condT hg16 hb15
            refine WL.gno rfl rfl hb15 ?_
            refine WL.gno rfl rfl hb15 ?_
            refine WL.gno rfl rfl hb15 ?_
            refine WL.gno rfl rfl hb15 ?_
            refine WL.gno rfl rfl hb15 ?_
            refine WL.valw (R.pickT rfl hb15 rfl) ?_
            exact WL.nil ⟨(congrArg boo (Option.some.inj hg16)), (by repeat (first | refine agree_upd rfl ?_ | refine agree_upds' rfl ?_ | exact agree_refl)), ⟨H13, (Hp.le.refl _), S⟩⟩
          · replace hg16 := condF hg16 hb15
            refine WL.gyes rfl rfl hb15 ?_
            refine WL.valw (R.mv (v := (int p_lifetime)) rfl) ?_
            refine WL.gyes rfl rfl hb15 ?_
            refine WL.valw (R.mv (v := (int p_age)) rfl) ?_
            refine WL.gyes rfl rfl hb15 ?_
            refine WL.valw (R.loadBN (i := 1) (vs := [(boo p_q.fNoStore), (boo p_q.fNoCache), (boo p_q.fMustRevalidate), (boo p_q.fProxyRevalidate), (boo p_q.fPrivate), (boo p_q.fPublic), (boo p_q.fOnlyIfCached), (int p_q.fMaxAge), (int p_q.fSMaxAge), (int p_q.fMinFresh), (int p_q.fMaxStale)]) S rfl rfl lay32 rfl rfl) ?_
            refine WL.gyes rfl rfl hb15 ?_
            refine WL.valw (R.loadBN (i := 0) (vs := [(boo p_r.fNoStore), (boo p_r.fNoCache), (boo p_r.fMustRevalidate), (boo p_r.fProxyRevalidate), (boo p_r.fPrivate), (boo p_r.fPublic), (boo p_r.fOnlyIfCached), (int p_r.fMaxAge), (int p_r.fSMaxAge), (int p_r.fMinFresh), (int p_r.fMaxStale)]) S rfl rfl lay32 rfl rfl) ?_
            refine WL.gyes rfl rfl hb15 ?_
            obtain ⟨r17, hr17, hg16⟩ := bindE hg16
            refine W.call S rfl (freshness_Fresh_ok S.holds p_lifetime p_age p_q p_r hr17) ?_
            rintro v18 w19 H20 hle21 S rfl
            refine WL.valw (R.pickF rfl hb15 rfl) ?_
            exact WL.nil ⟨(congrArg boo (Option.some.inj hg16)), (by repeat (first | refine agree_upd rfl ?_ | refine agree_upds' rfl ?_ | exact agree_refl)), ⟨H20, hle21, S⟩⟩
        · intro us w24 ⟨H23, hle25, S⟩
          refine WL.valw (R.mv (v := (boo b22)) rfl) ?_
          obtain ⟨b33, hg27, h⟩ := bindE h
          refine WL.grpw 2 [36] 37 (boo b33) (fun w => ∃ H' : Hp, H23.le H' ∧ St w0 H0 w H' [.box b3 32 [(boo p_r.fNoStore), (boo p_r.fNoCache), (boo p_r.fMustRevalidate), (boo p_r.fProxyRevalidate), (boo p_r.fPrivate), (boo p_r.fPublic), (boo p_r.fOnlyIfCached), (int p_r.fMaxAge), (int p_r.fSMaxAge), (int p_r.fMinFresh), (int p_r.fMaxStale)], .box b1 32 [(boo p_q.fNoStore), (boo p_q.fNoCache), (boo p_q.fMustRevalidate), (boo p_q.fProxyRevalidate), (boo p_q.fPrivate), (boo p_q.fPublic), (boo p_q.fOnlyIfCached), (int p_q.fMaxAge), (int p_q.fSMaxAge), (int p_q.fMinFresh), (int p_q.fMaxStale)]]) ?_ ?_
          · rcases boolE b22 with hb26 | hb26
            · replace hg27 := condT hg27 hb26
              refine WL.gyes rfl rfl hb26 ?_
              obtain ⟨r28, hr28, hg27⟩ := bindE hg27
              refine W.call S rfl (law23_awake_ok S.holds  hr28) ?_
              rintro v29 w30 H31 hle32 S rfl
              refine WL.valw (R.pickT rfl hb26 rfl) ?_
              exact WL.nil ⟨(congrArg boo (Option.some.inj hg27)), (by repeat (first | refine agree_upd rfl ?_ | refine agree_upds' rfl ?_ | exact agree_refl)), ⟨H31, hle32, S⟩⟩
            · replace hg27 := condF hg27 hb26
              refine WL.gno rfl rfl hb26 ?_
              refine WL.valw (R.pickF rfl hb26 rfl) ?_
              exact WL.nil ⟨(congrArg boo (Option.some.inj hg27)), (by repeat (first | refine agree_upd rfl ?_ | refine agree_upds' rfl ?_ | exact agree_refl)), ⟨H23, (Hp.le.refl _), S⟩⟩
          · intro us w35 ⟨H34, hle36, S⟩
            refine WL.valw (R.as (v := (boo b33)) rfl) ?_
            refine WL.nil ?_
            obtain rfl := Option.some.inj h
            refine WP.ret (Out.one rfl S rfl ?_)
            exact rfl
end Go.Proofs
