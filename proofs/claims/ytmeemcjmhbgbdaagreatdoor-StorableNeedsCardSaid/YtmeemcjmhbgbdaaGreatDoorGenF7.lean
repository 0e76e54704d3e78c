/- A part of the proof of laws of the seat: written by program over the translation. -/
import Derived.Test.YtmeemcjmhbgbdaaGreatDoorGenF6
namespace Go.Proofs
open Go.Eng Go.Eng.Pure
set_option linter.unusedVariables false
set_option maxRecDepth 10000 in
set_option maxHeartbeats 4000000 in
theorem ref01_First_ok {w0 : World} {H0 : Hp} (hw : Holds w0 H0) (p_l : (List GField)) (p_name : Str) {vp_l : Value} (Rp_l : Sl (α := GField) H0 vp_l p_l) {r : (Str × Bool)} (h : ref01_First p_l p_name = some r) :
    Con Tryz.prog 59 [vp_l, (str p_name)] w0 H0 (fun H' v => v = (.tuple ⟨[(str r.1), (boo r.2)]⟩)) := by
  refine Con.mk (N := 16) Tryz.func59 rfl rfl (by kernel_rfl) rfl ?_
  have S := St.start hw
  refine WP.seq ?_
  refine WP.region ?_
  refine WL.valw (R.as (v := (str [])) rfl) ?_
  refine WL.valw (R.as (v := (boo false)) rfl) ?_
  refine WL.nil ?_
  refine WP.seq ?_
  refine WP.seq ?_
  refine WP.region ?_
  refine WL.valw (R.mv (v := vp_l) rfl) ?_
  refine WL.valw (R.mv (v := (str p_name)) rfl) ?_
  obtain ⟨r1, hr1, h⟩ := bindE h
  refine W.call S rfl (ref01_Get_ok S.holds p_l p_name Rp_l hr1) ?_
  rintro v2 w3 H4 hle5 S R6
  have Rp_l := Sl.mono Rp_l hle5
  refine WL.valw (R.as (v := v2) rfl) ?_
  refine WL.nil ?_
  refine WP.seq ?_
  refine WP.region ?_
  refine WL.valw (R.mv (v := v2) rfl) ?_
  refine WL.valw (R.lenL (α := Str) (xs := r1) (H := H4) R6 rfl Tryz.underlying38) ?_
  refine WL.valw (R.gtr rfl rfl) ?_
  refine WL.nil ?_
  rcases condE h with ⟨hc7, h⟩ | ⟨hc7, h⟩
  · refine WP.condT rfl hc7 ?_
    refine WP.seq ?_
    refine WP.region ?_
    refine WL.valw (R.mv (v := v2) rfl) ?_
    obtain ⟨x8, hx8, h⟩ := bindE h
    refine W.idx (α := Str) R6 rfl rfl el38 hx8 ?_
    rintro a9 _ hA10 rfl
    refine WL.valw (R.loadH (v := (str x8)) S rfl hA10 lay9 rfl) ?_
    refine WL.valw (R.as (v := (str x8)) rfl) ?_
    refine WL.valw (R.as (v := (boo true)) rfl) ?_
    refine WL.nil ?_
    obtain rfl := Option.some.inj h
    refine WP.ret (Out.two rfl S rfl rfl ?_)
    exact rfl
  · refine WP.condF rfl hc7 ?_
    refine WP.skip ?_
    refine WP.seq ?_
    refine WP.region ?_
    refine WL.valw (R.as (v := (str [])) rfl) ?_
    refine WL.valw (R.as (v := (boo false)) rfl) ?_
    refine WL.nil ?_
    obtain rfl := Option.some.inj h
    refine WP.ret (Out.two rfl S rfl rfl ?_)
    exact rfl
set_option maxRecDepth 10000 in
set_option maxHeartbeats 4000000 in
theorem ref19_digits_ok {w0 : World} {H0 : Hp} (hw : Holds w0 H0) (p_s : Str) (p_at : Int) (p_n : Int) {r : (Int × Bool)} (h : ref19_digits p_s p_at p_n = some r) :
    Con Tryz.prog 78 [(str p_s), (int p_at), (int p_n)] w0 H0 (fun H' v => v = (.tuple ⟨[(int r.1), (boo r.2)]⟩)) := by
  refine Con.mk (N := 31) Tryz.func78 rfl rfl (by kernel_rfl) rfl ?_
  have S := St.start hw
  refine WP.seq ?_
  refine WP.region ?_
  refine WL.valw (R.as (v := (int 0)) rfl) ?_
  refine WL.valw (R.as (v := (boo false)) rfl) ?_
  refine WL.nil ?_
  refine WP.seq ?_
  refine WP.seq ?_
  refine WP.region ?_
  refine WL.valw (R.mv (v := (int p_at)) rfl) ?_
  refine WL.valw (R.as (v := (int p_at)) rfl) ?_
  refine WL.nil ?_
  obtain ⟨r14, hr15, h⟩ := bindE h
  refine WP.cut (fun f w => match r14 with | .inl _ => ∃ (H7 : Hp), f 0 = (str p_s) ∧ f 1 = (int p_at) ∧ f 2 = (int p_n) ∧ St w0 H0 w H7 [] | .inr _ => False) ?_ ?_
  · refine WP.block ?_
    refine WP.loopM (ref19_digits_L0 p_s p_at p_n) (fun s f w => match s with | i_5 => ∃ (H1 : Hp), f 0 = (str p_s) ∧ f 1 = (int p_at) ∧ f 2 = (int p_n) ∧ f 8 = (int i_5) ∧ St w0 H0 w H1 []) p_at r14 hr15 ?_ ?_
    · exact ⟨H0, rfl, rfl, rfl, rfl, S⟩
    · intro i_5 f w hI y11 hy12 hy13
      obtain ⟨H1, h2, h3, h4, h6, S⟩ := hI
      refine WP.seq ?_
      refine WP.seq ?_
      refine WP.region ?_
      refine WL.valw (R.mv (v := (int i_5)) h6) ?_
      refine WL.valw (R.mv (v := (int p_at)) h3) ?_
      refine WL.valw (R.mv (v := (int p_n)) h4) ?_
      refine WL.valw (R.add rfl rfl) ?_
      refine WL.valw (R.lss rfl rfl) ?_
      refine WL.nil ?_
      rcases condE hy12 with ⟨hc16, hy12⟩ | ⟨hc16, hy12⟩
      · refine WP.condT rfl hc16 ?_
        refine WP.skip ?_
        refine WP.seq ?_
        refine WP.block ?_
        refine WP.seq ?_
        refine WP.region ?_
        refine WL.valw (R.mv (v := (str p_s)) h2) ?_
        refine WL.valw (R.mv (v := (int i_5)) h6) ?_
        obtain ⟨c17, hc17, hy12⟩ := bindE hy12
        refine WL.valw (R.idxS rfl rfl Tryz.underlying9 hc17) ?_
        obtain ⟨r18, hr18, hy12⟩ := bindE hy12
        refine W.call S rfl (ref01_Digit_ok S.holds c17 hr18) ?_
        rintro v19 w20 H21 hle22 S rfl
        refine WL.valw (R.not rfl) ?_
        refine WL.nil ?_
        rcases condE hy12 with ⟨hc23, hy12⟩ | ⟨hc23, hy12⟩
        · refine WP.condT rfl hc23 ?_
          refine WP.seq ?_
          refine WP.region ?_
          refine WL.valw (R.as (v := (int 0)) rfl) ?_
          refine WL.valw (R.as (v := (boo false)) rfl) ?_
          refine WL.nil ?_
          obtain rfl := Option.some.inj hy12
          obtain rfl := hy13
          obtain rfl := Option.some.inj h
          refine WP.ret (Out.two rfl S rfl rfl ?_)
          exact rfl
        · refine WP.condF rfl hc23 ?_
          refine WP.skip ?_
          refine WP.region ?_
          refine WL.valw (R.mv (v := (int i_5)) h6) ?_
          refine WL.valw (R.add rfl rfl) ?_
          refine WL.valw (R.as (v := (int (wr (i_5 + 1)))) rfl) ?_
          refine WL.nil ?_
          obtain rfl := Option.some.inj hy12
          exact ⟨rfl, ⟨H21, h2, h3, h4, rfl, S⟩⟩
      · refine WP.condF rfl hc16 ?_
        refine WP.exit ?_
        obtain rfl := Option.some.inj hy12
        obtain rfl := hy13
        exact ⟨H1, h2, h3, h4, S⟩
  · intro f w hM
    rcases r14 with _ | e
    · obtain ⟨H7, h8, h9, h10, S⟩ := hM
      refine WP.seq ?_
      refine WP.region ?_
      refine WL.valw (R.mv (v := (str p_s)) h8) ?_
      refine WL.valw (R.mv (v := (int p_at)) h9) ?_
      refine WL.valw (R.mv (v := (int p_at)) h9) ?_
      refine WL.valw (R.mv (v := (int p_n)) h10) ?_
      refine WL.valw (R.add rfl rfl) ?_
      obtain ⟨s24, hs24, h⟩ := bindE h
      refine WL.valw (R.subS rfl rfl rfl Tryz.underlying9 hs24) ?_
      obtain ⟨r25, hr25, h⟩ := bindE h
      refine W.call S rfl (ref01_Number_ok S.holds s24 hr25) ?_
      rintro v26 w27 H28 hle29 S rfl
      refine WL.valw (R.ext rfl rfl) ?_
      refine WL.valw (R.ext rfl rfl) ?_
      refine WL.valw (R.as (v := (int r25.1)) rfl) ?_
      refine WL.valw (R.as (v := (boo r25.2)) rfl) ?_
      refine WL.nil ?_
      obtain rfl := Option.some.inj h
      refine WP.ret (Out.two rfl S rfl rfl ?_)
      exact rfl
    · exact hM.elim
set_option maxRecDepth 10000 in
set_option maxHeartbeats 4000000 in
theorem ref19_leap_ok {w0 : World} {H0 : Hp} (hw : Holds w0 H0) (p_year : Int) {r : Bool} (h : ref19_leap p_year = some r) :
    Con Tryz.prog 101 [(int p_year)] w0 H0 (fun H' v => v = (boo r)) := by
  refine Con.mk (N := 16) Tryz.func101 rfl rfl (by kernel_rfl) rfl ?_
  have S := St.start hw
  refine WP.seq ?_
  refine WP.region ?_
  refine WL.valw (R.as (v := (boo false)) rfl) ?_
  refine WL.nil ?_
  refine WP.seq ?_
  refine WP.region ?_
  refine WL.valw (R.mv (v := (int p_year)) rfl) ?_
  obtain ⟨n1, hn1, h⟩ := bindE h
  refine WL.valw (R.rem' rfl rfl hn1) ?_
  refine WL.valw (R.eql rfl rfl) ?_
  refine WL.valw (R.mv (v := (boo (n1 == 0))) rfl) ?_
  obtain ⟨b9, hg3, h⟩ := bindE h
  refine WL.grp 9 [7, 8, 9, 10, 11, 12, 13, 14] 15 (boo b9) ?_ ?_
  · rcases boolE (n1 == 0) with hb2 | hb2
    · replace hg3 := condT hg3 hb2
      refine WL.gyes rfl rfl hb2 ?_
      refine WL.valw (R.mv (v := (int p_year)) rfl) ?_
      refine WL.gyes rfl rfl hb2 ?_
      obtain ⟨n4, hn4, hg3⟩ := bindE hg3
      refine WL.valw (R.rem' rfl rfl hn4) ?_
      refine WL.gyes rfl rfl hb2 ?_
      refine WL.valw (R.neq rfl rfl) ?_
      refine WL.gyes rfl rfl hb2 ?_
      refine WL.valw (R.mv (v := (boo (n4 != 0))) rfl) ?_
      obtain ⟨b8, hg6, hg3⟩ := bindE hg3
      refine WL.grp 4 [11, 12, 13] 14 (boo b8) ?_ ?_
      · rcases boolE (n4 != 0) with hb5 | hb5
        · replace hg6 := condT hg6 hb5
          refine WL.gno rfl rfl hb5 ?_
          refine WL.gno rfl rfl hb5 ?_
          refine WL.gno rfl rfl hb5 ?_
          refine WL.gyes rfl rfl hb2 ?_
          refine WL.valw (R.pickT rfl hb5 rfl) ?_
          exact WL.nil ⟨(congrArg boo (Option.some.inj hg6)), (by repeat (first | refine agree_upd rfl ?_ | refine agree_upds' rfl ?_ | exact agree_refl)), rfl⟩
        · replace hg6 := condF hg6 hb5
          refine WL.gyes rfl rfl hb5 ?_
          refine WL.valw (R.mv (v := (int p_year)) rfl) ?_
          refine WL.gyes rfl rfl hb5 ?_
          obtain ⟨n7, hn7, hg6⟩ := bindE hg6
          refine WL.valw (R.rem' rfl rfl hn7) ?_
          refine WL.gyes rfl rfl hb5 ?_
          refine WL.valw (R.eql rfl rfl) ?_
          refine WL.gyes rfl rfl hb2 ?_
          refine WL.valw (R.pickF rfl hb5 rfl) ?_
          exact WL.nil ⟨(congrArg boo (Option.some.inj hg6)), (by repeat (first | refine agree_upd rfl ?_ | refine agree_upds' rfl ?_ | exact agree_refl)), rfl⟩
      · intro us
        refine WL.valw (R.pickT rfl hb2 rfl) ?_
        exact WL.nil ⟨(congrArg boo (Option.some.inj hg3)), (by repeat (first | refine agree_upd rfl ?_ | refine agree_upds' rfl ?_ | exact agree_refl)), rfl⟩
    · replace hg3 := condF hg3 hb2
      refine WL.gno rfl rfl hb2 ?_
      refine WL.gno rfl rfl hb2 ?_
      refine WL.gno rfl rfl hb2 ?_
      refine WL.gno rfl rfl hb2 ?_
      refine WL.gund rfl rfl ?_
      refine WL.gund rfl rfl ?_
      refine WL.gund rfl rfl ?_
      refine WL.gno rfl rfl hb2 ?_
      refine WL.valw (R.pickF rfl hb2 rfl) ?_
      exact WL.nil ⟨(congrArg boo (Option.some.inj hg3)), (by repeat (first | refine agree_upd rfl ?_ | refine agree_upds' rfl ?_ | exact agree_refl)), rfl⟩
  · intro us
    refine WL.valw (R.as (v := (boo b9)) rfl) ?_
    refine WL.nil ?_
    obtain rfl := Option.some.inj h
    refine WP.ret (Out.one rfl S rfl ?_)
    exact rfl
set_option maxRecDepth 10000 in
set_option maxHeartbeats 4000000 in
theorem ref19_length_ok {w0 : World} {H0 : Hp} (hw : Holds w0 H0) (p_year : Int) (p_month : Int) {r : Int} (h : ref19_length p_year p_month = some r) :
    Con Tryz.prog 100 [(int p_year), (int p_month)] w0 H0 (fun H' v => v = (int r)) := by
  refine Con.mk (N := 15) Tryz.func100 rfl rfl (by kernel_rfl) rfl ?_
  have S := St.start hw
  refine WP.seq ?_
  refine WP.region ?_
  refine WL.valw (R.as (v := (int 0)) rfl) ?_
  refine WL.nil ?_
  refine WP.seq ?_
  refine WP.seq ?_
  refine WP.region ?_
  refine WL.valw (R.mv (v := (int p_month)) rfl) ?_
  refine WL.nil ?_
  obtain ⟨j3, hj2, h⟩ := bindE h
  refine WP.cut (fun f w => match j3 with | .inl _ => ∃ (H1 : Hp), St w0 H0 w H1 [] | .inr _ => False) ?_ ?_
  · refine WP.block ?_
    refine WP.seq ?_
    refine WP.seq ?_
    refine WP.region ?_
    refine WL.valw (R.eql rfl rfl) ?_
    refine WL.valw (R.as (v := (boo (p_month == 4))) rfl) ?_
    refine WL.nil ?_
    obtain ⟨y_7, hj9, hj2⟩ := bindE hj2
    refine WP.cut (fun f w => ∃ (H4 : Hp), f 0 = (int p_year) ∧ f 5 = (int p_month) ∧ f 6 = (boo y_7) ∧ St w0 H0 w H4 []) ?_ ?_
    · rcases condE hj9 with ⟨hc11, hj9⟩ | ⟨hc11, hj9⟩
      · refine WP.condT rfl hc11 ?_
        refine WP.skip ?_
        obtain rfl := Option.some.inj hj9
        exact ⟨H0, rfl, rfl, rfl, S⟩
      · refine WP.condF rfl hc11 ?_
        refine WP.seq ?_
        refine WP.region ?_
        refine WL.valw (R.eql rfl rfl) ?_
        refine WL.valw (R.as (v := (boo (p_month == 6))) rfl) ?_
        refine WL.nil ?_
        rcases condE hj9 with ⟨hc12, hj9⟩ | ⟨hc12, hj9⟩
        · refine WP.condT rfl hc12 ?_
          refine WP.skip ?_
          obtain rfl := Option.some.inj hj9
          exact ⟨H0, rfl, rfl, rfl, S⟩
        · refine WP.condF rfl hc12 ?_
          refine WP.seq ?_
          refine WP.region ?_
          refine WL.valw (R.eql rfl rfl) ?_
          refine WL.valw (R.as (v := (boo (p_month == 9))) rfl) ?_
          refine WL.nil ?_
          rcases condE hj9 with ⟨hc13, hj9⟩ | ⟨hc13, hj9⟩
          · refine WP.condT rfl hc13 ?_
            refine WP.skip ?_
            obtain rfl := Option.some.inj hj9
            exact ⟨H0, rfl, rfl, rfl, S⟩
          · refine WP.condF rfl hc13 ?_
            refine WP.region ?_
            refine WL.valw (R.eql rfl rfl) ?_
            refine WL.valw (R.as (v := (boo (p_month == 11))) rfl) ?_
            refine WL.nil ?_
            obtain rfl := Option.some.inj hj9
            exact ⟨H0, rfl, rfl, rfl, S⟩
    · rintro f w ⟨H4, h5, h6, h8, S⟩
      rcases condE hj2 with ⟨hc14, hj2⟩ | ⟨hc14, hj2⟩
      · refine WP.condT h8 hc14 ?_
        refine WP.seq ?_
        refine WP.region ?_
        refine WL.valw (R.as (v := (int 30)) rfl) ?_
        refine WL.nil ?_
        obtain rfl := Option.some.inj hj2
        obtain rfl := Option.some.inj h
        refine WP.ret (Out.one rfl S rfl ?_)
        exact rfl
      · refine WP.condF h8 hc14 ?_
        refine WP.seq ?_
        refine WP.region ?_
        refine WL.valw (R.eql h6 rfl) ?_
        refine WL.valw (R.as (v := (boo (p_month == 2))) rfl) ?_
        refine WL.nil ?_
        rcases condE hj2 with ⟨hc15, hj2⟩ | ⟨hc15, hj2⟩
        · refine WP.condT rfl hc15 ?_
          refine WP.seq ?_
          refine WP.seq ?_
          refine WP.region ?_
          refine WL.valw (R.mv (v := (int p_year)) h5) ?_
          obtain ⟨r16, hr16, hj2⟩ := bindE hj2
          refine W.call S rfl (ref19_leap_ok S.holds p_year hr16) ?_
          rintro v17 w18 H19 hle20 S rfl
          refine WL.nil ?_
          rcases condE hj2 with ⟨hc21, hj2⟩ | ⟨hc21, hj2⟩
          · refine WP.condT rfl hc21 ?_
            refine WP.seq ?_
            refine WP.region ?_
            refine WL.valw (R.as (v := (int 29)) rfl) ?_
            refine WL.nil ?_
            obtain rfl := Option.some.inj hj2
            obtain rfl := Option.some.inj h
            refine WP.ret (Out.one rfl S rfl ?_)
            exact rfl
          · refine WP.condF rfl hc21 ?_
            refine WP.skip ?_
            refine WP.seq ?_
            refine WP.region ?_
            refine WL.valw (R.as (v := (int 28)) rfl) ?_
            refine WL.nil ?_
            obtain rfl := Option.some.inj hj2
            obtain rfl := Option.some.inj h
            refine WP.ret (Out.one rfl S rfl ?_)
            exact rfl
        · refine WP.condF rfl hc15 ?_
          refine WP.skip ?_
          obtain rfl := Option.some.inj hj2
          exact ⟨H4, S⟩
  · intro f w hM
    rcases j3 with _ | e
    · obtain ⟨H1, S⟩ := hM
      refine WP.seq ?_
      refine WP.region ?_
      refine WL.valw (R.as (v := (int 31)) rfl) ?_
      refine WL.nil ?_
      obtain rfl := Option.some.inj h
      refine WP.ret (Out.one rfl S rfl ?_)
      exact rfl
    · exact hM.elim
set_option maxRecDepth 10000 in
set_option maxHeartbeats 4000000 in
theorem ref19_Days_ok {w0 : World} {H0 : Hp} (hw : Holds w0 H0) (p_year : Int) (p_month : Int) (p_day : Int) {r : Int} (h : ref19_Days p_year p_month p_day = some r) :
    Con Tryz.prog 79 [(int p_year), (int p_month), (int p_day)] w0 H0 (fun H' v => v = (int r)) := by
  refine Con.mk (N := 59) Tryz.func79 rfl rfl (by kernel_rfl) rfl ?_
  have S := St.start hw
  refine WP.seq ?_
  refine WP.region ?_
  refine WL.valw (R.as (v := (int 0)) rfl) ?_
  refine WL.nil ?_
  refine WP.seq ?_
  refine WP.seq ?_
  refine WP.region ?_
  refine WL.valw (R.mv (v := (int p_year)) rfl) ?_
  refine WL.valw (R.lss rfl rfl) ?_
  refine WL.valw (R.mv (v := (boo (decide (p_year < 1970)))) rfl) ?_
  refine WL.grp 3 [13, 14] 15 (boo ((decide (p_year < 1970)) || (decide (9999 < p_year)))) ?_ ?_
  · rcases boolE (decide (p_year < 1970)) with hb1 | hb1
    · refine WL.gno rfl rfl hb1 ?_
      refine WL.gno rfl rfl hb1 ?_
      refine WL.valw (R.pickT rfl hb1 rfl) ?_
      exact WL.nil ⟨(orT hb1), (by repeat (first | refine agree_upd rfl ?_ | refine agree_upds' rfl ?_ | exact agree_refl)), rfl⟩
    · refine WL.gyes rfl rfl hb1 ?_
      refine WL.valw (R.mv (v := (int p_year)) rfl) ?_
      refine WL.gyes rfl rfl hb1 ?_
      refine WL.valw (R.gtr rfl rfl) ?_
      refine WL.valw (R.pickF rfl hb1 rfl) ?_
      exact WL.nil ⟨(orF hb1), (by repeat (first | refine agree_upd rfl ?_ | refine agree_upds' rfl ?_ | exact agree_refl)), rfl⟩
  · intro us
    refine WL.valw (R.mv (v := (boo ((decide (p_year < 1970)) || (decide (9999 < p_year))))) rfl) ?_
    refine WL.grp 3 [17, 18] 19 (boo (((decide (p_year < 1970)) || (decide (9999 < p_year))) || (decide (p_month < 1)))) ?_ ?_
    · rcases boolE ((decide (p_year < 1970)) || (decide (9999 < p_year))) with hb3 | hb3
      · refine WL.gno rfl rfl hb3 ?_
        refine WL.gno rfl rfl hb3 ?_
        refine WL.valw (R.pickT rfl hb3 rfl) ?_
        exact WL.nil ⟨(orT hb3), (by repeat (first | refine agree_upd rfl ?_ | refine agree_upds' rfl ?_ | exact agree_refl)), rfl⟩
      · refine WL.gyes rfl rfl hb3 ?_
        refine WL.valw (R.mv (v := (int p_month)) rfl) ?_
        refine WL.gyes rfl rfl hb3 ?_
        refine WL.valw (R.lss rfl rfl) ?_
        refine WL.valw (R.pickF rfl hb3 rfl) ?_
        exact WL.nil ⟨(orF hb3), (by repeat (first | refine agree_upd rfl ?_ | refine agree_upds' rfl ?_ | exact agree_refl)), rfl⟩
    · intro us
      refine WL.valw (R.mv (v := (boo (((decide (p_year < 1970)) || (decide (9999 < p_year))) || (decide (p_month < 1))))) rfl) ?_
      refine WL.grp 3 [21, 22] 23 (boo ((((decide (p_year < 1970)) || (decide (9999 < p_year))) || (decide (p_month < 1))) || (decide (12 < p_month)))) ?_ ?_
      · rcases boolE (((decide (p_year < 1970)) || (decide (9999 < p_year))) || (decide (p_month < 1))) with hb5 | hb5
        · refine WL.gno rfl rfl hb5 ?_
          refine WL.gno rfl rfl hb5 ?_
          refine WL.valw (R.pickT rfl hb5 rfl) ?_
          exact WL.nil ⟨(orT hb5), (by repeat (first | refine agree_upd rfl ?_ | refine agree_upds' rfl ?_ | exact agree_refl)), rfl⟩
        · refine WL.gyes rfl rfl hb5 ?_
          refine WL.valw (R.mv (v := (int p_month)) rfl) ?_
          refine WL.gyes rfl rfl hb5 ?_
          refine WL.valw (R.gtr rfl rfl) ?_
          refine WL.valw (R.pickF rfl hb5 rfl) ?_
          exact WL.nil ⟨(orF hb5), (by repeat (first | refine agree_upd rfl ?_ | refine agree_upds' rfl ?_ | exact agree_refl)), rfl⟩
      · intro us
        refine WL.valw (R.mv (v := (boo ((((decide (p_year < 1970)) || (decide (9999 < p_year))) || (decide (p_month < 1))) || (decide (12 < p_month))))) rfl) ?_
        refine WL.grp 3 [25, 26] 27 (boo (((((decide (p_year < 1970)) || (decide (9999 < p_year))) || (decide (p_month < 1))) || (decide (12 < p_month))) || (decide (p_day < 1)))) ?_ ?_
        · rcases boolE ((((decide (p_year < 1970)) || (decide (9999 < p_year))) || (decide (p_month < 1))) || (decide (12 < p_month))) with hb7 | hb7
          · refine WL.gno rfl rfl hb7 ?_
            refine WL.gno rfl rfl hb7 ?_
            refine WL.valw (R.pickT rfl hb7 rfl) ?_
            exact WL.nil ⟨(orT hb7), (by repeat (first | refine agree_upd rfl ?_ | refine agree_upds' rfl ?_ | exact agree_refl)), rfl⟩
          · refine WL.gyes rfl rfl hb7 ?_
            refine WL.valw (R.mv (v := (int p_day)) rfl) ?_
            refine WL.gyes rfl rfl hb7 ?_
            refine WL.valw (R.lss rfl rfl) ?_
            refine WL.valw (R.pickF rfl hb7 rfl) ?_
            exact WL.nil ⟨(orF hb7), (by repeat (first | refine agree_upd rfl ?_ | refine agree_upds' rfl ?_ | exact agree_refl)), rfl⟩
        · intro us
          refine WL.valw (R.mv (v := (boo (((((decide (p_year < 1970)) || (decide (9999 < p_year))) || (decide (p_month < 1))) || (decide (12 < p_month))) || (decide (p_day < 1))))) rfl) ?_
          obtain ⟨b16, hg10, h⟩ := bindE h
          refine WL.grpw 6 [29, 30, 31, 32, 33] 34 (boo b16) (fun w => ∃ H' : Hp, H0.le H' ∧ St w0 H0 w H' []) ?_ ?_
          · rcases boolE (((((decide (p_year < 1970)) || (decide (9999 < p_year))) || (decide (p_month < 1))) || (decide (12 < p_month))) || (decide (p_day < 1))) with hb9 | hb9
            · replace hg10 := condT hg10 hb9
              refine WL.gno rfl rfl hb9 ?_
              refine WL.gno rfl rfl hb9 ?_
              refine WL.gno rfl rfl hb9 ?_
              refine WL.gno rfl rfl hb9 ?_
              refine WL.gno rfl rfl hb9 ?_
              refine WL.valw (R.pickT rfl hb9 rfl) ?_
              exact WL.nil ⟨(congrArg boo (Option.some.inj hg10)), (by repeat (first | refine agree_upd rfl ?_ | refine agree_upds' rfl ?_ | exact agree_refl)), ⟨H0, (Hp.le.refl _), S⟩⟩
            · replace hg10 := condF hg10 hb9
              refine WL.gyes rfl rfl hb9 ?_
              refine WL.valw (R.mv (v := (int p_day)) rfl) ?_
              refine WL.gyes rfl rfl hb9 ?_
              refine WL.valw (R.mv (v := (int p_year)) rfl) ?_
              refine WL.gyes rfl rfl hb9 ?_
              refine WL.valw (R.mv (v := (int p_month)) rfl) ?_
              refine WL.gyes rfl rfl hb9 ?_
              obtain ⟨r11, hr11, hg10⟩ := bindE hg10
              refine W.call S rfl (ref19_length_ok S.holds p_year p_month hr11) ?_
              rintro v12 w13 H14 hle15 S rfl
              refine WL.gyes rfl rfl hb9 ?_
              refine WL.valw (R.gtr rfl rfl) ?_
              refine WL.valw (R.pickF rfl hb9 rfl) ?_
              exact WL.nil ⟨(congrArg boo (Option.some.inj hg10)), (by repeat (first | refine agree_upd rfl ?_ | refine agree_upds' rfl ?_ | exact agree_refl)), ⟨H14, hle15, S⟩⟩
          · intro us w18 ⟨H17, hle19, S⟩
            refine WL.nil ?_
            rcases condE h with ⟨hc20, h⟩ | ⟨hc20, h⟩
            · refine WP.condT rfl hc20 ?_
              refine WP.seq ?_
              refine WP.region ?_
              refine WL.valw (R.as (v := (int (-1))) rfl) ?_
              refine WL.nil ?_
              obtain rfl := Option.some.inj h
              refine WP.ret (Out.one rfl S rfl ?_)
              exact rfl
            · refine WP.condF rfl hc20 ?_
              refine WP.skip ?_
              refine WP.seq ?_
              refine WP.region ?_
              refine WL.valw (R.mv (v := (int p_day)) rfl) ?_
              refine WL.valw (R.sub rfl rfl) ?_
              refine WL.valw (R.as (v := (int (wr (p_day - 1)))) rfl) ?_
              refine WL.nil ?_
              refine WP.seq ?_
              refine WP.seq ?_
              refine WP.region ?_
              refine WL.valw (R.as (v := (int 1970)) rfl) ?_
              refine WL.nil ?_
              obtain ⟨n_31, hr37, h⟩ := bindE h
              refine WP.cut (fun f w => ∃ (H28 : Hp), f 0 = (int p_year) ∧ f 1 = (int p_month) ∧ f 7 = (int n_31) ∧ St w0 H0 w H28 []) ?_ ?_
              · refine WP.block ?_
                refine WP.loopM (ref19_Days_L0 p_year) (fun s f w => match s with | (n_24, y_26) => ∃ (H21 : Hp), f 0 = (int p_year) ∧ f 1 = (int p_month) ∧ f 7 = (int n_24) ∧ f 8 = (int y_26) ∧ St w0 H0 w H21 []) (wr (p_day - 1), 1970) n_31 hr37 ?_ ?_
                · exact ⟨H17, rfl, rfl, rfl, rfl, S⟩
                · intro s f w hI y33 hy34 hy35
                  obtain ⟨n_24, y_26⟩ := s
                  obtain ⟨H21, h22, h23, h25, h27, S⟩ := hI
                  refine WP.seq ?_
                  refine WP.seq ?_
                  refine WP.region ?_
                  refine WL.valw (R.mv (v := (int y_26)) h27) ?_
                  refine WL.valw (R.mv (v := (int p_year)) h22) ?_
                  refine WL.valw (R.lss rfl rfl) ?_
                  refine WL.nil ?_
                  rcases condE hy34 with ⟨hc38, hy34⟩ | ⟨hc38, hy34⟩
                  · refine WP.condT rfl hc38 ?_
                    refine WP.skip ?_
                    refine WP.seq ?_
                    refine WP.block ?_
                    refine WP.seq ?_
                    refine WP.region ?_
                    refine WL.valw (R.mv (v := (int n_24)) h25) ?_
                    refine WL.valw (R.add rfl rfl) ?_
                    refine WL.valw (R.as (v := (int (wr (n_24 + 365)))) rfl) ?_
                    refine WL.nil ?_
                    refine WP.seq ?_
                    refine WP.region ?_
                    refine WL.valw (R.mv (v := (int y_26)) h27) ?_
                    obtain ⟨r39, hr39, hy34⟩ := bindE hy34
                    refine W.call S rfl (ref19_leap_ok S.holds y_26 hr39) ?_
                    rintro v40 w41 H42 hle43 S rfl
                    refine WL.nil ?_
                    rcases condE hy34 with ⟨hc44, hy34⟩ | ⟨hc44, hy34⟩
                    · refine WP.condT rfl hc44 ?_
                      refine WP.region ?_
                      refine WL.valw (R.mv (v := (int (wr (n_24 + 365)))) rfl) ?_
                      refine WL.valw (R.add rfl rfl) ?_
                      refine WL.valw (R.as (v := (int (wr ((wr (n_24 + 365)) + 1)))) rfl) ?_
                      refine WL.nil ?_
                      refine WP.region ?_
                      refine WL.valw (R.mv (v := (int y_26)) h27) ?_
                      refine WL.valw (R.add rfl rfl) ?_
                      refine WL.valw (R.as (v := (int (wr (y_26 + 1)))) rfl) ?_
                      refine WL.nil ?_
                      obtain rfl := Option.some.inj hy34
                      exact ⟨rfl, ⟨H42, h22, h23, rfl, rfl, S⟩⟩
                    · refine WP.condF rfl hc44 ?_
                      refine WP.skip ?_
                      refine WP.region ?_
                      refine WL.valw (R.mv (v := (int y_26)) h27) ?_
                      refine WL.valw (R.add rfl rfl) ?_
                      refine WL.valw (R.as (v := (int (wr (y_26 + 1)))) rfl) ?_
                      refine WL.nil ?_
                      obtain rfl := Option.some.inj hy34
                      exact ⟨rfl, ⟨H42, h22, h23, rfl, rfl, S⟩⟩
                  · refine WP.condF rfl hc38 ?_
                    refine WP.exit ?_
                    obtain rfl := Option.some.inj hy34
                    obtain rfl := hy35
                    exact ⟨H21, h22, h23, h25, S⟩
              · rintro f w ⟨H28, h29, h30, h32, S⟩
                refine WP.seq ?_
                refine WP.seq ?_
                refine WP.region ?_
                refine WL.valw (R.as (v := (int 1)) rfl) ?_
                refine WL.nil ?_
                obtain ⟨n_53, hr59, h⟩ := bindE h
                refine WP.cut (fun f w => ∃ (H52 : Hp), f 7 = (int n_53) ∧ St w0 H0 w H52 []) ?_ ?_
                · refine WP.block ?_
                  refine WP.loopM (ref19_Days_L1 p_year p_month) (fun s f w => match s with | (n_48, m_50) => ∃ (H45 : Hp), f 0 = (int p_year) ∧ f 1 = (int p_month) ∧ f 7 = (int n_48) ∧ f 9 = (int m_50) ∧ St w0 H0 w H45 []) (n_31, 1) n_53 hr59 ?_ ?_
                  · exact ⟨H28, h29, h30, h32, rfl, S⟩
                  · intro s f w hI y55 hy56 hy57
                    obtain ⟨n_48, m_50⟩ := s
                    obtain ⟨H45, h46, h47, h49, h51, S⟩ := hI
                    refine WP.seq ?_
                    refine WP.seq ?_
                    refine WP.region ?_
                    refine WL.valw (R.mv (v := (int m_50)) h51) ?_
                    refine WL.valw (R.mv (v := (int p_month)) h47) ?_
                    refine WL.valw (R.lss rfl rfl) ?_
                    refine WL.nil ?_
                    rcases condE hy56 with ⟨hc60, hy56⟩ | ⟨hc60, hy56⟩
                    · refine WP.condT rfl hc60 ?_
                      refine WP.skip ?_
                      refine WP.seq ?_
                      refine WP.block ?_
                      refine WP.region ?_
                      refine WL.valw (R.mv (v := (int n_48)) h49) ?_
                      refine WL.valw (R.mv (v := (int p_year)) h46) ?_
                      refine WL.valw (R.mv (v := (int m_50)) h51) ?_
                      obtain ⟨r61, hr61, hy56⟩ := bindE hy56
                      refine W.call S rfl (ref19_length_ok S.holds p_year m_50 hr61) ?_
                      rintro v62 w63 H64 hle65 S rfl
                      refine WL.valw (R.add rfl rfl) ?_
                      refine WL.valw (R.as (v := (int (wr (n_48 + r61)))) rfl) ?_
                      refine WL.nil ?_
                      refine WP.region ?_
                      refine WL.valw (R.mv (v := (int m_50)) h51) ?_
                      refine WL.valw (R.add rfl rfl) ?_
                      refine WL.valw (R.as (v := (int (wr (m_50 + 1)))) rfl) ?_
                      refine WL.nil ?_
                      obtain rfl := Option.some.inj hy56
                      exact ⟨rfl, ⟨H64, h46, h47, rfl, rfl, S⟩⟩
                    · refine WP.condF rfl hc60 ?_
                      refine WP.exit ?_
                      obtain rfl := Option.some.inj hy56
                      obtain rfl := hy57
                      exact ⟨H45, h49, S⟩
                · rintro f w ⟨H52, h54, S⟩
                  refine WP.seq ?_
                  refine WP.region ?_
                  refine WL.valw (R.mv (v := (int n_53)) h54) ?_
                  refine WL.valw (R.as (v := (int n_53)) rfl) ?_
                  refine WL.nil ?_
                  obtain rfl := Option.some.inj h
                  refine WP.ret (Out.one rfl S rfl ?_)
                  exact rfl
set_option maxRecDepth 10000 in
set_option maxHeartbeats 4000000 in
theorem ref19_ParseDate_ok {w0 : World} {H0 : Hp} (hw : Holds w0 H0) (p_ppend : Str) {r : (Int × Bool)} (h : ref19_ParseDate p_ppend = some r) :
    Con Tryz.prog 61 [(str p_ppend)] w0 H0 (fun H' v => v = (.tuple ⟨[(int r.1), (boo r.2)]⟩)) := by
  refine Con.mk (N := 156) Tryz.func61 rfl rfl (by kernel_rfl) rfl ?_
  have S := St.start hw
  refine WP.seq ?_
  refine WP.region ?_
  refine WL.valw (R.as (v := (int 0)) rfl) ?_
  refine WL.valw (R.as (v := (boo false)) rfl) ?_
  refine WL.nil ?_
  refine WP.seq ?_
  refine WP.seq ?_
  refine WP.region ?_
  refine WL.valw (R.mv (v := (str p_ppend)) rfl) ?_
  refine WL.valw (R.lenS (a := p_ppend) rfl Tryz.underlying9) ?_
  refine WL.valw (R.neq rfl rfl) ?_
  refine WL.valw (R.mv (v := (boo ((p_ppend.length : Int) != 29))) rfl) ?_
  obtain ⟨b4, hg2, h⟩ := bindE h
  refine WL.grp 4 [21, 22, 23] 24 (boo b4) ?_ ?_
  · rcases boolE ((p_ppend.length : Int) != 29) with hb1 | hb1
    · replace hg2 := condT hg2 hb1
      refine WL.gno rfl rfl hb1 ?_
      refine WL.gno rfl rfl hb1 ?_
      refine WL.gno rfl rfl hb1 ?_
      refine WL.valw (R.pickT rfl hb1 rfl) ?_
      exact WL.nil ⟨(congrArg boo (Option.some.inj hg2)), (by repeat (first | refine agree_upd rfl ?_ | refine agree_upds' rfl ?_ | exact agree_refl)), rfl⟩
    · replace hg2 := condF hg2 hb1
      refine WL.gyes rfl rfl hb1 ?_
      refine WL.valw (R.mv (v := (str p_ppend)) rfl) ?_
      refine WL.gyes rfl rfl hb1 ?_
      obtain ⟨s3, hs3, hg2⟩ := bindE hg2
      refine WL.valw (R.subS rfl rfl rfl Tryz.underlying9 hs3) ?_
      refine WL.gyes rfl rfl hb1 ?_
      refine WL.valw (R.neqS (a := s3) (b := [44, 32]) rfl rfl) ?_
      refine WL.valw (R.pickF rfl hb1 rfl) ?_
      exact WL.nil ⟨(congrArg boo (Option.some.inj hg2)), (by repeat (first | refine agree_upd rfl ?_ | refine agree_upds' rfl ?_ | exact agree_refl)), rfl⟩
  · intro us
    refine WL.valw (R.mv (v := (boo b4)) rfl) ?_
    obtain ⟨b8, hg6, h⟩ := bindE h
    refine WL.grp 4 [26, 27, 28] 29 (boo b8) ?_ ?_
    · rcases boolE b4 with hb5 | hb5
      · replace hg6 := condT hg6 hb5
        refine WL.gno rfl rfl hb5 ?_
        refine WL.gno rfl rfl hb5 ?_
        refine WL.gno rfl rfl hb5 ?_
        refine WL.valw (R.pickT rfl hb5 rfl) ?_
        exact WL.nil ⟨(congrArg boo (Option.some.inj hg6)), (by repeat (first | refine agree_upd rfl ?_ | refine agree_upds' rfl ?_ | exact agree_refl)), rfl⟩
      · replace hg6 := condF hg6 hb5
        refine WL.gyes rfl rfl hb5 ?_
        refine WL.valw (R.mv (v := (str p_ppend)) rfl) ?_
        refine WL.gyes rfl rfl hb5 ?_
        obtain ⟨c7, hc7, hg6⟩ := bindE hg6
        refine WL.valw (R.idxS rfl rfl Tryz.underlying9 hc7) ?_
        refine WL.gyes rfl rfl hb5 ?_
        refine WL.valw (R.neq8 (a := c7) (b := 32) rfl rfl) ?_
        refine WL.valw (R.pickF rfl hb5 rfl) ?_
        exact WL.nil ⟨(congrArg boo (Option.some.inj hg6)), (by repeat (first | refine agree_upd rfl ?_ | refine agree_upds' rfl ?_ | exact agree_refl)), rfl⟩
    · intro us
      refine WL.valw (R.mv (v := (boo b8)) rfl) ?_
      obtain ⟨b12, hg10, h⟩ := bindE h
      refine WL.grp 4 [31, 32, 33] 34 (boo b12) ?_ ?_
      · rcases boolE b8 with hb9 | hb9
        · replace hg10 := condT hg10 hb9
          refine WL.gno rfl rfl hb9 ?_
          refine WL.gno rfl rfl hb9 ?_
          refine WL.gno rfl rfl hb9 ?_
          refine WL.valw (R.pickT rfl hb9 rfl) ?_
          exact WL.nil ⟨(congrArg boo (Option.some.inj hg10)), (by repeat (first | refine agree_upd rfl ?_ | refine agree_upds' rfl ?_ | exact agree_refl)), rfl⟩
        · replace hg10 := condF hg10 hb9
          refine WL.gyes rfl rfl hb9 ?_
          refine WL.valw (R.mv (v := (str p_ppend)) rfl) ?_
          refine WL.gyes rfl rfl hb9 ?_
          obtain ⟨c11, hc11, hg10⟩ := bindE hg10
          refine WL.valw (R.idxS rfl rfl Tryz.underlying9 hc11) ?_
          refine WL.gyes rfl rfl hb9 ?_
          refine WL.valw (R.neq8 (a := c11) (b := 32) rfl rfl) ?_
          refine WL.valw (R.pickF rfl hb9 rfl) ?_
          exact WL.nil ⟨(congrArg boo (Option.some.inj hg10)), (by repeat (first | refine agree_upd rfl ?_ | refine agree_upds' rfl ?_ | exact agree_refl)), rfl⟩
      · intro us
        refine WL.valw (R.mv (v := (boo b12)) rfl) ?_
        obtain ⟨b16, hg14, h⟩ := bindE h
        refine WL.grp 4 [36, 37, 38] 39 (boo b16) ?_ ?_
        · rcases boolE b12 with hb13 | hb13
          · replace hg14 := condT hg14 hb13
            refine WL.gno rfl rfl hb13 ?_
            refine WL.gno rfl rfl hb13 ?_
            refine WL.gno rfl rfl hb13 ?_
            refine WL.valw (R.pickT rfl hb13 rfl) ?_
            exact WL.nil ⟨(congrArg boo (Option.some.inj hg14)), (by repeat (first | refine agree_upd rfl ?_ | refine agree_upds' rfl ?_ | exact agree_refl)), rfl⟩
          · replace hg14 := condF hg14 hb13
            refine WL.gyes rfl rfl hb13 ?_
            refine WL.valw (R.mv (v := (str p_ppend)) rfl) ?_
            refine WL.gyes rfl rfl hb13 ?_
            obtain ⟨c15, hc15, hg14⟩ := bindE hg14
            refine WL.valw (R.idxS rfl rfl Tryz.underlying9 hc15) ?_
            refine WL.gyes rfl rfl hb13 ?_
            refine WL.valw (R.neq8 (a := c15) (b := 32) rfl rfl) ?_
            refine WL.valw (R.pickF rfl hb13 rfl) ?_
            exact WL.nil ⟨(congrArg boo (Option.some.inj hg14)), (by repeat (first | refine agree_upd rfl ?_ | refine agree_upds' rfl ?_ | exact agree_refl)), rfl⟩
        · intro us
          refine WL.valw (R.mv (v := (boo b16)) rfl) ?_
          obtain ⟨b20, hg18, h⟩ := bindE h
          refine WL.grp 4 [41, 42, 43] 44 (boo b20) ?_ ?_
          · rcases boolE b16 with hb17 | hb17
            · replace hg18 := condT hg18 hb17
              refine WL.gno rfl rfl hb17 ?_
              refine WL.gno rfl rfl hb17 ?_
              refine WL.gno rfl rfl hb17 ?_
              refine WL.valw (R.pickT rfl hb17 rfl) ?_
              exact WL.nil ⟨(congrArg boo (Option.some.inj hg18)), (by repeat (first | refine agree_upd rfl ?_ | refine agree_upds' rfl ?_ | exact agree_refl)), rfl⟩
            · replace hg18 := condF hg18 hb17
              refine WL.gyes rfl rfl hb17 ?_
              refine WL.valw (R.mv (v := (str p_ppend)) rfl) ?_
              refine WL.gyes rfl rfl hb17 ?_
              obtain ⟨c19, hc19, hg18⟩ := bindE hg18
              refine WL.valw (R.idxS rfl rfl Tryz.underlying9 hc19) ?_
              refine WL.gyes rfl rfl hb17 ?_
              refine WL.valw (R.neq8 (a := c19) (b := 58) rfl rfl) ?_
              refine WL.valw (R.pickF rfl hb17 rfl) ?_
              exact WL.nil ⟨(congrArg boo (Option.some.inj hg18)), (by repeat (first | refine agree_upd rfl ?_ | refine agree_upds' rfl ?_ | exact agree_refl)), rfl⟩
          · intro us
            refine WL.valw (R.mv (v := (boo b20)) rfl) ?_
            obtain ⟨b24, hg22, h⟩ := bindE h
            refine WL.grp 4 [46, 47, 48] 49 (boo b24) ?_ ?_
            · rcases boolE b20 with hb21 | hb21
              · replace hg22 := condT hg22 hb21
                refine WL.gno rfl rfl hb21 ?_
                refine WL.gno rfl rfl hb21 ?_
                refine WL.gno rfl rfl hb21 ?_
                refine WL.valw (R.pickT rfl hb21 rfl) ?_
                exact WL.nil ⟨(congrArg boo (Option.some.inj hg22)), (by repeat (first | refine agree_upd rfl ?_ | refine agree_upds' rfl ?_ | exact agree_refl)), rfl⟩
              · replace hg22 := condF hg22 hb21
                refine WL.gyes rfl rfl hb21 ?_
                refine WL.valw (R.mv (v := (str p_ppend)) rfl) ?_
                refine WL.gyes rfl rfl hb21 ?_
                obtain ⟨c23, hc23, hg22⟩ := bindE hg22
                refine WL.valw (R.idxS rfl rfl Tryz.underlying9 hc23) ?_
                refine WL.gyes rfl rfl hb21 ?_
                refine WL.valw (R.neq8 (a := c23) (b := 58) rfl rfl) ?_
                refine WL.valw (R.pickF rfl hb21 rfl) ?_
                exact WL.nil ⟨(congrArg boo (Option.some.inj hg22)), (by repeat (first | refine agree_upd rfl ?_ | refine agree_upds' rfl ?_ | exact agree_refl)), rfl⟩
            · intro us
              refine WL.valw (R.mv (v := (boo b24)) rfl) ?_
              obtain ⟨b28, hg26, h⟩ := bindE h
              refine WL.grp 4 [51, 52, 53] 54 (boo b28) ?_ ?_
              · rcases boolE b24 with hb25 | hb25
                · replace hg26 := condT hg26 hb25
                  refine WL.gno rfl rfl hb25 ?_
                  refine WL.gno rfl rfl hb25 ?_
                  refine WL.gno rfl rfl hb25 ?_
                  refine WL.valw (R.pickT rfl hb25 rfl) ?_
                  exact WL.nil ⟨(congrArg boo (Option.some.inj hg26)), (by repeat (first | refine agree_upd rfl ?_ | refine agree_upds' rfl ?_ | exact agree_refl)), rfl⟩
                · replace hg26 := condF hg26 hb25
                  refine WL.gyes rfl rfl hb25 ?_
                  refine WL.valw (R.mv (v := (str p_ppend)) rfl) ?_
                  refine WL.gyes rfl rfl hb25 ?_
                  obtain ⟨s27, hs27, hg26⟩ := bindE hg26
                  refine WL.valw (R.subSlo rfl rfl Tryz.underlying9 hs27) ?_
                  refine WL.gyes rfl rfl hb25 ?_
                  refine WL.valw (R.neqS (a := s27) (b := [32, 71, 77, 84]) rfl rfl) ?_
                  refine WL.valw (R.pickF rfl hb25 rfl) ?_
                  exact WL.nil ⟨(congrArg boo (Option.some.inj hg26)), (by repeat (first | refine agree_upd rfl ?_ | refine agree_upds' rfl ?_ | exact agree_refl)), rfl⟩
              · intro us
                refine WL.nil ?_
                rcases condE h with ⟨hc29, h⟩ | ⟨hc29, h⟩
                · refine WP.condT rfl hc29 ?_
                  refine WP.seq ?_
                  refine WP.region ?_
                  refine WL.valw (R.as (v := (int 0)) rfl) ?_
                  refine WL.valw (R.as (v := (boo false)) rfl) ?_
                  refine WL.nil ?_
                  obtain rfl := Option.some.inj h
                  refine WP.ret (Out.two rfl S rfl rfl ?_)
                  exact rfl
                · refine WP.condF rfl hc29 ?_
                  refine WP.skip ?_
                  refine WP.seq ?_
                  refine WP.region ?_
                  refine WL.valw (R.mv (v := (str p_ppend)) rfl) ?_
                  obtain ⟨r30, hr30, h⟩ := bindE h
                  refine W.call S rfl (ref19_digits_ok S.holds p_ppend 5 2 hr30) ?_
                  rintro v31 w32 H33 hle34 S rfl
                  refine WL.valw (R.mv (v := (.tuple ⟨[(int r30.1), (boo r30.2)]⟩)) rfl) ?_
                  refine WL.valw (R.ext rfl rfl) ?_
                  refine WL.valw (R.ext rfl rfl) ?_
                  refine WL.valw (R.as (v := (int r30.1)) rfl) ?_
                  refine WL.valw (R.as (v := (boo r30.2)) rfl) ?_
                  refine WL.nil ?_
                  refine WP.seq ?_
                  refine WP.region ?_
                  refine WL.valw (R.mv (v := (str p_ppend)) rfl) ?_
                  obtain ⟨r35, hr35, h⟩ := bindE h
                  refine W.call S rfl (ref19_digits_ok S.holds p_ppend 12 4 hr35) ?_
                  rintro v36 w37 H38 hle39 S rfl
                  refine WL.valw (R.mv (v := (.tuple ⟨[(int r35.1), (boo r35.2)]⟩)) rfl) ?_
                  refine WL.valw (R.ext rfl rfl) ?_
                  refine WL.valw (R.ext rfl rfl) ?_
                  refine WL.valw (R.as (v := (int r35.1)) rfl) ?_
                  refine WL.valw (R.as (v := (boo r35.2)) rfl) ?_
                  refine WL.nil ?_
                  refine WP.seq ?_
                  refine WP.region ?_
                  refine WL.valw (R.mv (v := (str p_ppend)) rfl) ?_
                  obtain ⟨r40, hr40, h⟩ := bindE h
                  refine W.call S rfl (ref19_digits_ok S.holds p_ppend 17 2 hr40) ?_
                  rintro v41 w42 H43 hle44 S rfl
                  refine WL.valw (R.mv (v := (.tuple ⟨[(int r40.1), (boo r40.2)]⟩)) rfl) ?_
                  refine WL.valw (R.ext rfl rfl) ?_
                  refine WL.valw (R.ext rfl rfl) ?_
                  refine WL.valw (R.as (v := (int r40.1)) rfl) ?_
                  refine WL.valw (R.as (v := (boo r40.2)) rfl) ?_
                  refine WL.nil ?_
                  refine WP.seq ?_
                  refine WP.region ?_
                  refine WL.valw (R.mv (v := (str p_ppend)) rfl) ?_
                  obtain ⟨r45, hr45, h⟩ := bindE h
                  refine W.call S rfl (ref19_digits_ok S.holds p_ppend 20 2 hr45) ?_
                  rintro v46 w47 H48 hle49 S rfl
                  refine WL.valw (R.mv (v := (.tuple ⟨[(int r45.1), (boo r45.2)]⟩)) rfl) ?_
                  refine WL.valw (R.ext rfl rfl) ?_
                  refine WL.valw (R.ext rfl rfl) ?_
                  refine WL.valw (R.as (v := (int r45.1)) rfl) ?_
                  refine WL.valw (R.as (v := (boo r45.2)) rfl) ?_
                  refine WL.nil ?_
                  refine WP.seq ?_
                  refine WP.region ?_
                  refine WL.valw (R.mv (v := (str p_ppend)) rfl) ?_
                  obtain ⟨r50, hr50, h⟩ := bindE h
                  refine W.call S rfl (ref19_digits_ok S.holds p_ppend 23 2 hr50) ?_
                  rintro v51 w52 H53 hle54 S rfl
                  refine WL.valw (R.mv (v := (.tuple ⟨[(int r50.1), (boo r50.2)]⟩)) rfl) ?_
                  refine WL.valw (R.ext rfl rfl) ?_
                  refine WL.valw (R.ext rfl rfl) ?_
                  refine WL.valw (R.as (v := (int r50.1)) rfl) ?_
                  refine WL.valw (R.as (v := (boo r50.2)) rfl) ?_
                  refine WL.nil ?_
                  refine WP.seq ?_
                  refine WP.region ?_
                  refine WL.valw (R.as (v := (int 0)) rfl) ?_
                  refine WL.nil ?_
                  refine WP.seq ?_
                  refine WP.seq ?_
                  refine WP.region ?_
                  refine WL.valw (R.as (v := (int 0)) rfl) ?_
                  refine WL.nil ?_
                  obtain ⟨y_83, hr89, h⟩ := bindE h
                  refine WP.cut (fun f w => ∃ (H71 : Hp), f 0 = (str p_ppend) ∧ f 4 = (int r30.1) ∧ f 5 = (boo r30.2) ∧ f 6 = (int r35.1) ∧ f 7 = (boo r35.2) ∧ f 8 = (int r40.1) ∧ f 9 = (boo r40.2) ∧ f 10 = (int r45.1) ∧ f 11 = (boo r45.2) ∧ f 12 = (int r50.1) ∧ f 13 = (boo r50.2) ∧ f 14 = (int y_83) ∧ St w0 H0 w H71 []) ?_ ?_
                  · refine WP.block ?_
                    refine WP.loopM (ref19_ParseDate_L0 p_ppend) (fun s f w => match s with | (y_67, y_69) => ∃ (H55 : Hp), f 0 = (str p_ppend) ∧ f 4 = (int r30.1) ∧ f 5 = (boo r30.2) ∧ f 6 = (int r35.1) ∧ f 7 = (boo r35.2) ∧ f 8 = (int r40.1) ∧ f 9 = (boo r40.2) ∧ f 10 = (int r45.1) ∧ f 11 = (boo r45.2) ∧ f 12 = (int r50.1) ∧ f 13 = (boo r50.2) ∧ f 14 = (int y_67) ∧ f 15 = (int y_69) ∧ St w0 H0 w H55 []) (0, 0) y_83 hr89 ?_ ?_
                    · exact ⟨H53, rfl, rfl, rfl, rfl, rfl, rfl, rfl, rfl, rfl, rfl, rfl, rfl, rfl, S⟩
                    · intro s f w hI y85 hy86 hy87
                      obtain ⟨y_67, y_69⟩ := s
                      obtain ⟨H55, h56, h57, h58, h59, h60, h61, h62, h63, h64, h65, h66, h68, h70, S⟩ := hI
                      refine WP.seq ?_
                      refine WP.seq ?_
                      refine WP.region ?_
                      refine WL.valw (R.mv (v := (int y_69)) h70) ?_
                      refine WL.valw (R.lss rfl rfl) ?_
                      refine WL.nil ?_
                      rcases condE hy86 with ⟨hc90, hy86⟩ | ⟨hc90, hy86⟩
                      · refine WP.condT rfl hc90 ?_
                        refine WP.skip ?_
                        refine WP.seq ?_
                        refine WP.block ?_
                        refine WP.seq ?_
                        refine WP.quiet S (by kernel_rfl) (by kernel_rfl) ?_
                        refine WQ.val (fun _ _ => (R.mv (v := (int y_69)) h70)) ?_
                        refine WQ.val (fun _ _ => (R.mul rfl rfl)) ?_
                        refine WQ.val (fun _ _ => (R.mv (v := (int y_69)) h70)) ?_
                        refine WQ.val (fun _ _ => (R.mul rfl rfl)) ?_
                        refine WQ.val (fun _ _ => (R.add rfl rfl)) ?_
                        obtain ⟨s94, hs94, hy86⟩ := bindE hy86
                        refine WQ.val (fun _ _ => (R.subS rfl rfl rfl Tryz.underlying9 hs94)) ?_
                        refine WQ.val (fun _ _ => (R.mv (v := (str p_ppend)) h56)) ?_
                        obtain ⟨s95, hs95, hy86⟩ := bindE hy86
                        refine WQ.val (fun _ _ => (R.subS rfl rfl rfl Tryz.underlying9 hs95)) ?_
                        refine WQ.val (fun _ _ => (R.eqlS (a := s94) (b := s95) rfl rfl)) ?_
                        refine WQ.nil ?_
                        intro w91 H92 hle93 S
                        rcases condE hy86 with ⟨hc96, hy86⟩ | ⟨hc96, hy86⟩
                        · refine WP.condT rfl hc96 ?_
                          refine WP.region ?_
                          refine WL.valw (R.mv (v := (int y_69)) h70) ?_
                          refine WL.valw (R.add rfl rfl) ?_
                          refine WL.valw (R.as (v := (int (wr (y_69 + 1)))) rfl) ?_
                          refine WL.nil ?_
                          refine WP.region ?_
                          refine WL.valw (R.mv (v := (int y_69)) h70) ?_
                          refine WL.valw (R.add rfl rfl) ?_
                          refine WL.valw (R.as (v := (int (wr (y_69 + 1)))) rfl) ?_
                          refine WL.nil ?_
                          obtain rfl := Option.some.inj hy86
                          exact ⟨rfl, ⟨H92, h56, h57, h58, h59, h60, h61, h62, h63, h64, h65, h66, rfl, rfl, S⟩⟩
                        · refine WP.condF rfl hc96 ?_
                          refine WP.skip ?_
                          refine WP.region ?_
                          refine WL.valw (R.mv (v := (int y_69)) h70) ?_
                          refine WL.valw (R.add rfl rfl) ?_
                          refine WL.valw (R.as (v := (int (wr (y_69 + 1)))) rfl) ?_
                          refine WL.nil ?_
                          obtain rfl := Option.some.inj hy86
                          exact ⟨rfl, ⟨H92, h56, h57, h58, h59, h60, h61, h62, h63, h64, h65, h66, h68, rfl, S⟩⟩
                      · refine WP.condF rfl hc90 ?_
                        refine WP.exit ?_
                        obtain rfl := Option.some.inj hy86
                        obtain rfl := hy87
                        exact ⟨H55, h56, h57, h58, h59, h60, h61, h62, h63, h64, h65, h66, h68, S⟩
                  · rintro f w ⟨H71, h72, h73, h74, h75, h76, h77, h78, h79, h80, h81, h82, h84, S⟩
                    refine WP.seq ?_
                    refine WP.region ?_
                    refine WL.valw (R.mv (v := (int r35.1)) h75) ?_
                    refine WL.valw (R.mv (v := (int y_83)) h84) ?_
                    refine WL.valw (R.mv (v := (int r30.1)) h73) ?_
                    obtain ⟨r97, hr97, h⟩ := bindE h
                    refine W.call S rfl (ref19_Days_ok S.holds r35.1 y_83 r30.1 hr97) ?_
                    rintro v98 w99 H100 hle101 S rfl
                    refine WL.valw (R.as (v := (int r97)) rfl) ?_
                    refine WL.nil ?_
                    refine WP.seq ?_
                    refine WP.seq ?_
                    refine WP.quiet S (by kernel_rfl) (by kernel_rfl) ?_
                    refine WQ.val (fun _ _ => (R.mv (v := (boo r30.2)) h74)) ?_
                    refine WQ.val (fun _ _ => (R.not rfl)) ?_
                    refine WQ.val (fun _ _ => (R.mv (v := (boo (!r30.2))) rfl)) ?_
                    refine WQ.grp 3 [102, 103] 104 (boo ((!r30.2) || (!r35.2))) ?_ ?_
                    · rcases boolE (!r30.2) with hb105 | hb105
                      · refine WQ.gno rfl rfl hb105 ?_
                        refine WQ.gno rfl rfl hb105 ?_
                        refine WQ.val (fun _ _ => (R.pickT rfl hb105 rfl)) ?_
                        exact WQ.nil ⟨(orT hb105), (by repeat (first | refine agree_upd rfl ?_ | refine agree_upds' rfl ?_ | exact agree_refl))⟩
                      · refine WQ.gyes rfl rfl hb105 ?_
                        refine WQ.val (fun _ _ => (R.mv (v := (boo r35.2)) h76)) ?_
                        refine WQ.gyes rfl rfl hb105 ?_
                        refine WQ.val (fun _ _ => (R.not rfl)) ?_
                        refine WQ.val (fun _ _ => (R.pickF rfl hb105 rfl)) ?_
                        exact WQ.nil ⟨(orF hb105), (by repeat (first | refine agree_upd rfl ?_ | refine agree_upds' rfl ?_ | exact agree_refl))⟩
                    · intro us
                      refine WQ.val (fun _ _ => (R.mv (v := (boo ((!r30.2) || (!r35.2)))) rfl)) ?_
                      refine WQ.grp 3 [106, 107] 108 (boo (((!r30.2) || (!r35.2)) || (!r40.2))) ?_ ?_
                      · rcases boolE ((!r30.2) || (!r35.2)) with hb107 | hb107
                        · refine WQ.gno rfl rfl hb107 ?_
                          refine WQ.gno rfl rfl hb107 ?_
                          refine WQ.val (fun _ _ => (R.pickT rfl hb107 rfl)) ?_
                          exact WQ.nil ⟨(orT hb107), (by repeat (first | refine agree_upd rfl ?_ | refine agree_upds' rfl ?_ | exact agree_refl))⟩
                        · refine WQ.gyes rfl rfl hb107 ?_
                          refine WQ.val (fun _ _ => (R.mv (v := (boo r40.2)) h78)) ?_
                          refine WQ.gyes rfl rfl hb107 ?_
                          refine WQ.val (fun _ _ => (R.not rfl)) ?_
                          refine WQ.val (fun _ _ => (R.pickF rfl hb107 rfl)) ?_
                          exact WQ.nil ⟨(orF hb107), (by repeat (first | refine agree_upd rfl ?_ | refine agree_upds' rfl ?_ | exact agree_refl))⟩
                      · intro us
                        refine WQ.val (fun _ _ => (R.mv (v := (boo (((!r30.2) || (!r35.2)) || (!r40.2)))) rfl)) ?_
                        refine WQ.grp 3 [110, 111] 112 (boo ((((!r30.2) || (!r35.2)) || (!r40.2)) || (!r45.2))) ?_ ?_
                        · rcases boolE (((!r30.2) || (!r35.2)) || (!r40.2)) with hb109 | hb109
                          · refine WQ.gno rfl rfl hb109 ?_
                            refine WQ.gno rfl rfl hb109 ?_
                            refine WQ.val (fun _ _ => (R.pickT rfl hb109 rfl)) ?_
                            exact WQ.nil ⟨(orT hb109), (by repeat (first | refine agree_upd rfl ?_ | refine agree_upds' rfl ?_ | exact agree_refl))⟩
                          · refine WQ.gyes rfl rfl hb109 ?_
                            refine WQ.val (fun _ _ => (R.mv (v := (boo r45.2)) h80)) ?_
                            refine WQ.gyes rfl rfl hb109 ?_
                            refine WQ.val (fun _ _ => (R.not rfl)) ?_
                            refine WQ.val (fun _ _ => (R.pickF rfl hb109 rfl)) ?_
                            exact WQ.nil ⟨(orF hb109), (by repeat (first | refine agree_upd rfl ?_ | refine agree_upds' rfl ?_ | exact agree_refl))⟩
                        · intro us
                          refine WQ.val (fun _ _ => (R.mv (v := (boo ((((!r30.2) || (!r35.2)) || (!r40.2)) || (!r45.2)))) rfl)) ?_
                          refine WQ.grp 3 [114, 115] 116 (boo (((((!r30.2) || (!r35.2)) || (!r40.2)) || (!r45.2)) || (!r50.2))) ?_ ?_
                          · rcases boolE ((((!r30.2) || (!r35.2)) || (!r40.2)) || (!r45.2)) with hb111 | hb111
                            · refine WQ.gno rfl rfl hb111 ?_
                              refine WQ.gno rfl rfl hb111 ?_
                              refine WQ.val (fun _ _ => (R.pickT rfl hb111 rfl)) ?_
                              exact WQ.nil ⟨(orT hb111), (by repeat (first | refine agree_upd rfl ?_ | refine agree_upds' rfl ?_ | exact agree_refl))⟩
                            · refine WQ.gyes rfl rfl hb111 ?_
                              refine WQ.val (fun _ _ => (R.mv (v := (boo r50.2)) h82)) ?_
                              refine WQ.gyes rfl rfl hb111 ?_
                              refine WQ.val (fun _ _ => (R.not rfl)) ?_
                              refine WQ.val (fun _ _ => (R.pickF rfl hb111 rfl)) ?_
                              exact WQ.nil ⟨(orF hb111), (by repeat (first | refine agree_upd rfl ?_ | refine agree_upds' rfl ?_ | exact agree_refl))⟩
                          · intro us
                            refine WQ.val (fun _ _ => (R.mv (v := (boo (((((!r30.2) || (!r35.2)) || (!r40.2)) || (!r45.2)) || (!r50.2)))) rfl)) ?_
                            refine WQ.grp 3 [118, 119] 120 (boo ((((((!r30.2) || (!r35.2)) || (!r40.2)) || (!r45.2)) || (!r50.2)) || (decide (r97 < 0)))) ?_ ?_
                            · rcases boolE (((((!r30.2) || (!r35.2)) || (!r40.2)) || (!r45.2)) || (!r50.2)) with hb113 | hb113
                              · refine WQ.gno rfl rfl hb113 ?_
                                refine WQ.gno rfl rfl hb113 ?_
                                refine WQ.val (fun _ _ => (R.pickT rfl hb113 rfl)) ?_
                                exact WQ.nil ⟨(orT hb113), (by repeat (first | refine agree_upd rfl ?_ | refine agree_upds' rfl ?_ | exact agree_refl))⟩
                              · refine WQ.gyes rfl rfl hb113 ?_
                                refine WQ.val (fun _ _ => (R.mv (v := (int r97)) rfl)) ?_
                                refine WQ.gyes rfl rfl hb113 ?_
                                refine WQ.val (fun _ _ => (R.lss rfl rfl)) ?_
                                refine WQ.val (fun _ _ => (R.pickF rfl hb113 rfl)) ?_
                                exact WQ.nil ⟨(orF hb113), (by repeat (first | refine agree_upd rfl ?_ | refine agree_upds' rfl ?_ | exact agree_refl))⟩
                            · intro us
                              refine WQ.val (fun _ _ => (R.mv (v := (boo ((((((!r30.2) || (!r35.2)) || (!r40.2)) || (!r45.2)) || (!r50.2)) || (decide (r97 < 0))))) rfl)) ?_
                              refine WQ.grp 3 [122, 123] 124 (boo (((((((!r30.2) || (!r35.2)) || (!r40.2)) || (!r45.2)) || (!r50.2)) || (decide (r97 < 0))) || (decide (23 < r40.1)))) ?_ ?_
                              · rcases boolE ((((((!r30.2) || (!r35.2)) || (!r40.2)) || (!r45.2)) || (!r50.2)) || (decide (r97 < 0))) with hb115 | hb115
                                · refine WQ.gno rfl rfl hb115 ?_
                                  refine WQ.gno rfl rfl hb115 ?_
                                  refine WQ.val (fun _ _ => (R.pickT rfl hb115 rfl)) ?_
                                  exact WQ.nil ⟨(orT hb115), (by repeat (first | refine agree_upd rfl ?_ | refine agree_upds' rfl ?_ | exact agree_refl))⟩
                                · refine WQ.gyes rfl rfl hb115 ?_
                                  refine WQ.val (fun _ _ => (R.mv (v := (int r40.1)) h77)) ?_
                                  refine WQ.gyes rfl rfl hb115 ?_
                                  refine WQ.val (fun _ _ => (R.gtr rfl rfl)) ?_
                                  refine WQ.val (fun _ _ => (R.pickF rfl hb115 rfl)) ?_
                                  exact WQ.nil ⟨(orF hb115), (by repeat (first | refine agree_upd rfl ?_ | refine agree_upds' rfl ?_ | exact agree_refl))⟩
                              · intro us
                                refine WQ.val (fun _ _ => (R.mv (v := (boo (((((((!r30.2) || (!r35.2)) || (!r40.2)) || (!r45.2)) || (!r50.2)) || (decide (r97 < 0))) || (decide (23 < r40.1))))) rfl)) ?_
                                refine WQ.grp 3 [126, 127] 128 (boo ((((((((!r30.2) || (!r35.2)) || (!r40.2)) || (!r45.2)) || (!r50.2)) || (decide (r97 < 0))) || (decide (23 < r40.1))) || (decide (59 < r45.1)))) ?_ ?_
                                · rcases boolE (((((((!r30.2) || (!r35.2)) || (!r40.2)) || (!r45.2)) || (!r50.2)) || (decide (r97 < 0))) || (decide (23 < r40.1))) with hb117 | hb117
                                  · refine WQ.gno rfl rfl hb117 ?_
                                    refine WQ.gno rfl rfl hb117 ?_
                                    refine WQ.val (fun _ _ => (R.pickT rfl hb117 rfl)) ?_
                                    exact WQ.nil ⟨(orT hb117), (by repeat (first | refine agree_upd rfl ?_ | refine agree_upds' rfl ?_ | exact agree_refl))⟩
                                  · refine WQ.gyes rfl rfl hb117 ?_
                                    refine WQ.val (fun _ _ => (R.mv (v := (int r45.1)) h79)) ?_
                                    refine WQ.gyes rfl rfl hb117 ?_
                                    refine WQ.val (fun _ _ => (R.gtr rfl rfl)) ?_
                                    refine WQ.val (fun _ _ => (R.pickF rfl hb117 rfl)) ?_
                                    exact WQ.nil ⟨(orF hb117), (by repeat (first | refine agree_upd rfl ?_ | refine agree_upds' rfl ?_ | exact agree_refl))⟩
                                · intro us
                                  refine WQ.val (fun _ _ => (R.mv (v := (boo ((((((((!r30.2) || (!r35.2)) || (!r40.2)) || (!r45.2)) || (!r50.2)) || (decide (r97 < 0))) || (decide (23 < r40.1))) || (decide (59 < r45.1))))) rfl)) ?_
                                  refine WQ.grp 3 [130, 131] 132 (boo (((((((((!r30.2) || (!r35.2)) || (!r40.2)) || (!r45.2)) || (!r50.2)) || (decide (r97 < 0))) || (decide (23 < r40.1))) || (decide (59 < r45.1))) || (decide (59 < r50.1)))) ?_ ?_
                                  · rcases boolE ((((((((!r30.2) || (!r35.2)) || (!r40.2)) || (!r45.2)) || (!r50.2)) || (decide (r97 < 0))) || (decide (23 < r40.1))) || (decide (59 < r45.1))) with hb119 | hb119
                                    · refine WQ.gno rfl rfl hb119 ?_
                                      refine WQ.gno rfl rfl hb119 ?_
                                      refine WQ.val (fun _ _ => (R.pickT rfl hb119 rfl)) ?_
                                      exact WQ.nil ⟨(orT hb119), (by repeat (first | refine agree_upd rfl ?_ | refine agree_upds' rfl ?_ | exact agree_refl))⟩
                                    · refine WQ.gyes rfl rfl hb119 ?_
                                      refine WQ.val (fun _ _ => (R.mv (v := (int r50.1)) h81)) ?_
                                      refine WQ.gyes rfl rfl hb119 ?_
                                      refine WQ.val (fun _ _ => (R.gtr rfl rfl)) ?_
                                      refine WQ.val (fun _ _ => (R.pickF rfl hb119 rfl)) ?_
                                      exact WQ.nil ⟨(orF hb119), (by repeat (first | refine agree_upd rfl ?_ | refine agree_upds' rfl ?_ | exact agree_refl))⟩
                                  · intro us
                                    refine WQ.val (fun _ _ => (R.mv (v := (boo (((((((((!r30.2) || (!r35.2)) || (!r40.2)) || (!r45.2)) || (!r50.2)) || (decide (r97 < 0))) || (decide (23 < r40.1))) || (decide (59 < r45.1))) || (decide (59 < r50.1))))) rfl)) ?_
                                    obtain ⟨b127, hg122, h⟩ := bindE h
                                    refine WQ.grp 12 [134, 135, 136, 137, 138, 139, 140, 141, 142, 143, 144] 145 (boo b127) ?_ ?_
                                    · rcases boolE (((((((((!r30.2) || (!r35.2)) || (!r40.2)) || (!r45.2)) || (!r50.2)) || (decide (r97 < 0))) || (decide (23 < r40.1))) || (decide (59 < r45.1))) || (decide (59 < r50.1))) with hb121 | hb121
                                      · replace hg122 := condT hg122 hb121
                                        refine WQ.gno rfl rfl hb121 ?_
                                        refine WQ.gno rfl rfl hb121 ?_
                                        refine WQ.gno rfl rfl hb121 ?_
                                        refine WQ.gno rfl rfl hb121 ?_
                                        refine WQ.gno rfl rfl hb121 ?_
                                        refine WQ.gno rfl rfl hb121 ?_
                                        refine WQ.gno rfl rfl hb121 ?_
                                        refine WQ.gno rfl rfl hb121 ?_
                                        refine WQ.gno rfl rfl hb121 ?_
                                        refine WQ.gno rfl rfl hb121 ?_
                                        refine WQ.gno rfl rfl hb121 ?_
                                        refine WQ.val (fun _ _ => (R.pickT rfl hb121 rfl)) ?_
                                        exact WQ.nil ⟨(congrArg boo (Option.some.inj hg122)), (by repeat (first | refine agree_upd rfl ?_ | refine agree_upds' rfl ?_ | exact agree_refl))⟩
                                      · replace hg122 := condF hg122 hb121
                                        refine WQ.gyes rfl rfl hb121 ?_
                                        refine WQ.val (fun _ _ => (R.mv (v := (int r97)) rfl)) ?_
                                        refine WQ.gyes rfl rfl hb121 ?_
                                        obtain ⟨n123, hn123, hg122⟩ := bindE hg122
                                        refine WQ.val (fun _ _ => (R.rem' rfl rfl hn123)) ?_
                                        refine WQ.gyes rfl rfl hb121 ?_
                                        refine WQ.val (fun _ _ => (R.mul rfl rfl)) ?_
                                        refine WQ.gyes rfl rfl hb121 ?_
                                        refine WQ.val (fun _ _ => (R.mv (v := (int r97)) rfl)) ?_
                                        refine WQ.gyes rfl rfl hb121 ?_
                                        obtain ⟨n124, hn124, hg122⟩ := bindE hg122
                                        refine WQ.val (fun _ _ => (R.rem' rfl rfl hn124)) ?_
                                        refine WQ.gyes rfl rfl hb121 ?_
                                        refine WQ.val (fun _ _ => (R.mul rfl rfl)) ?_
                                        refine WQ.gyes rfl rfl hb121 ?_
                                        refine WQ.val (fun _ _ => (R.add rfl rfl)) ?_
                                        refine WQ.gyes rfl rfl hb121 ?_
                                        obtain ⟨s125, hs125, hg122⟩ := bindE hg122
                                        refine WQ.val (fun _ _ => (R.subS rfl rfl rfl Tryz.underlying9 hs125)) ?_
                                        refine WQ.gyes rfl rfl hb121 ?_
                                        refine WQ.val (fun _ _ => (R.mv (v := (str p_ppend)) h72)) ?_
                                        refine WQ.gyes rfl rfl hb121 ?_
                                        obtain ⟨s126, hs126, hg122⟩ := bindE hg122
                                        refine WQ.val (fun _ _ => (R.subShi rfl rfl Tryz.underlying9 hs126)) ?_
                                        refine WQ.gyes rfl rfl hb121 ?_
                                        refine WQ.val (fun _ _ => (R.neqS (a := s125) (b := s126) rfl rfl)) ?_
                                        refine WQ.val (fun _ _ => (R.pickF rfl hb121 rfl)) ?_
                                        exact WQ.nil ⟨(congrArg boo (Option.some.inj hg122)), (by repeat (first | refine agree_upd rfl ?_ | refine agree_upds' rfl ?_ | exact agree_refl))⟩
                                    · intro us
                                      refine WQ.nil ?_
                                      intro w102 H103 hle104 S
                                      rcases condE h with ⟨hc128, h⟩ | ⟨hc128, h⟩
                                      · refine WP.condT rfl hc128 ?_
                                        refine WP.seq ?_
                                        refine WP.region ?_
                                        refine WL.valw (R.as (v := (int 0)) rfl) ?_
                                        refine WL.valw (R.as (v := (boo false)) rfl) ?_
                                        refine WL.nil ?_
                                        obtain rfl := Option.some.inj h
                                        refine WP.ret (Out.two rfl S rfl rfl ?_)
                                        exact rfl
                                      · refine WP.condF rfl hc128 ?_
                                        refine WP.skip ?_
                                        refine WP.seq ?_
                                        refine WP.region ?_
                                        refine WL.valw (R.mv (v := (int r97)) rfl) ?_
                                        refine WL.valw (R.mul rfl rfl) ?_
                                        refine WL.valw (R.mv (v := (int r40.1)) h77) ?_
                                        refine WL.valw (R.mul rfl rfl) ?_
                                        refine WL.valw (R.mv (v := (int r45.1)) h79) ?_
                                        refine WL.valw (R.mul rfl rfl) ?_
                                        refine WL.valw (R.add rfl rfl) ?_
                                        refine WL.valw (R.mv (v := (int r50.1)) h81) ?_
                                        refine WL.valw (R.add rfl rfl) ?_
                                        refine WL.valw (R.add rfl rfl) ?_
                                        refine WL.valw (R.as (v := (int (wr ((wr (r97 * 86400)) + (wr ((wr ((wr (r40.1 * 3600)) + (wr (r45.1 * 60)))) + r50.1)))))) rfl) ?_
                                        refine WL.valw (R.as (v := (boo true)) rfl) ?_
                                        refine WL.nil ?_
                                        obtain rfl := Option.some.inj h
                                        refine WP.ret (Out.two rfl S rfl rfl ?_)
                                        exact rfl
set_option maxRecDepth 10000 in
set_option maxHeartbeats 4000000 in
theorem ref19_firstDate_ok {w0 : World} {H0 : Hp} (hw : Holds w0 H0) (p_l : (List GField)) (p_name : Str) {vp_l : Value} (Rp_l : Sl (α := GField) H0 vp_l p_l) {r : (Int × Bool)} (h : ref19_firstDate p_l p_name = some r) :
    Con Tryz.prog 30 [vp_l, (str p_name)] w0 H0 (fun H' v => v = (.tuple ⟨[(int r.1), (boo r.2)]⟩)) := by
  refine Con.mk (N := 20) Tryz.func30 rfl rfl (by kernel_rfl) rfl ?_
  have S := St.start hw
  refine WP.seq ?_
  refine WP.region ?_
  refine WL.valw (R.as (v := (int 0)) rfl) ?_
  refine WL.valw (R.as (v := (boo false)) rfl) ?_
  refine WL.nil ?_
  refine WP.seq ?_
  refine WP.region ?_
  refine WL.valw (R.mv (v := vp_l) rfl) ?_
  refine WL.valw (R.mv (v := (str p_name)) rfl) ?_
  obtain ⟨r1, hr1, h⟩ := bindE h
  refine W.call S rfl (ref01_First_ok S.holds p_l p_name Rp_l hr1) ?_
  rintro v2 w3 H4 hle5 S rfl
  have Rp_l := Sl.mono Rp_l hle5
  refine WL.valw (R.mv (v := (.tuple ⟨[(str r1.1), (boo r1.2)]⟩)) rfl) ?_
  refine WL.valw (R.ext rfl rfl) ?_
  refine WL.valw (R.ext rfl rfl) ?_
  refine WL.valw (R.as (v := (str r1.1)) rfl) ?_
  refine WL.valw (R.as (v := (boo r1.2)) rfl) ?_
  refine WL.nil ?_
  refine WP.seq ?_
  refine WP.seq ?_
  refine WP.region ?_
  refine WL.valw (R.mv (v := (boo r1.2)) rfl) ?_
  refine WL.valw (R.not rfl) ?_
  refine WL.nil ?_
  rcases condE h with ⟨hc6, h⟩ | ⟨hc6, h⟩
  · refine WP.condT rfl hc6 ?_
    refine WP.seq ?_
    refine WP.region ?_
    refine WL.valw (R.as (v := (int 0)) rfl) ?_
    refine WL.valw (R.as (v := (boo false)) rfl) ?_
    refine WL.nil ?_
    obtain rfl := Option.some.inj h
    refine WP.ret (Out.two rfl S rfl rfl ?_)
    exact rfl
  · refine WP.condF rfl hc6 ?_
    refine WP.skip ?_
    refine WP.seq ?_
    refine WP.region ?_
    refine WL.valw (R.mv (v := (str r1.1)) rfl) ?_
    obtain ⟨r7, hr7, h⟩ := bindE h
    refine W.call S rfl (ref19_ParseDate_ok S.holds r1.1 hr7) ?_
    rintro v8 w9 H10 hle11 S rfl
    have Rp_l := Sl.mono Rp_l hle11
    refine WL.valw (R.ext rfl rfl) ?_
    refine WL.valw (R.ext rfl rfl) ?_
    refine WL.valw (R.as (v := (int r7.1)) rfl) ?_
    refine WL.valw (R.as (v := (boo r7.2)) rfl) ?_
    refine WL.nil ?_
    obtain rfl := Option.some.inj h
    refine WP.ret (Out.two rfl S rfl rfl ?_)
    exact rfl
end Go.Proofs
