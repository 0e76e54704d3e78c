/- A part of the proof of laws of the seat: written by program over the translation. -/
import Derived.Test.YtdijehmmnpofjaaDoorGenC7
namespace Go.Proofs
open Go.Eng Go.Eng.Pure
set_option linter.unusedVariables false
set_option maxRecDepth 10000 in
set_option maxHeartbeats 4000000 in
theorem ref19_ParseDate_ok {w0 : World} {H0 : Hp} (hw : Holds w0 H0) (p_ppend : Str) {r : (Int × Bool)} (h : ref19_ParseDate p_ppend = some r) :
    Con Tryd.prog 71 [(str p_ppend)] w0 H0 (fun H' v => v = (.tuple ⟨[(int r.1), (boo r.2)]⟩)) := by
  refine Con.mk (N := 156) Tryd.func71 rfl rfl (by kernel_rfl) rfl ?_
  have S := St.start hw
  refine WP.seq ?_
  refine WP.region ?_
  refine WL.valw (R.as (v := (int 0)) rfl) ?_
  refine WL.valw (R.as (v := (boo false)) rfl) ?_
  refine WL.nil ?_
  refine WP.seq ?_
  refine WP.seq ?_
  refine WP.region ?_
  refine WL.valw (R.mv (v := (str p_ppend)) rfl) ?_
  refine WL.valw (R.lenS (a := p_ppend) rfl Tryd.underlying9) ?_
  refine WL.valw (R.neq rfl rfl) ?_
  refine WL.valw (R.mv (v := (boo ((p_ppend.length : Int) != 29))) rfl) ?_
  obtain ⟨b4, hg2, h⟩ := bindE h
  refine WL.grp 4 [21, 22, 23] 24 (boo b4) ?_ ?_
  · rcases boolE ((p_ppend.length : Int) != 29) with hb1 | hb1
    · replace hg2 := condT hg2 hb1
      refine WL.gno rfl rfl hb1 ?_
      refine WL.gno rfl rfl hb1 ?_
      refine WL.gno rfl rfl hb1 ?_
      refine WL.valw (R.pickT rfl hb1 rfl) ?_
      exact WL.nil ⟨(congrArg boo (Option.some.inj hg2)), (by repeat (first | refine agree_upd rfl ?_ | refine agree_upds' rfl ?_ | exact agree_refl)), rfl⟩
    · replace hg2 := condF hg2 hb1
      refine WL.gyes rfl rfl hb1 ?_
      refine WL.valw (R.mv (v := (str p_ppend)) rfl) ?_
      refine WL.gyes rfl rfl hb1 ?_
      obtain ⟨s3, hs3, hg2⟩ := bindE hg2
      refine WL.valw (R.subS rfl rfl rfl Tryd.underlying9 hs3) ?_
      refine WL.gyes rfl rfl hb1 ?_
      refine WL.valw (R.neqS (a := s3) (b := [44, 32]) rfl rfl) ?_
      refine WL.valw (R.pickF rfl hb1 rfl) ?_
      exact WL.nil ⟨(congrArg boo (Option.some.inj hg2)), (by repeat (first | refine agree_upd rfl ?_ | refine agree_upds' rfl ?_ | exact agree_refl)), rfl⟩
  · intro us
    refine WL.valw (R.mv (v := (boo b4)) rfl) ?_
    obtain ⟨b8, hg6, h⟩ := bindE h
    refine WL.grp 4 [26, 27, 28] 29 (boo b8) ?_ ?_
    · rcases boolE b4 with hb5 | hb5
      · replace hg6 := condT hg6 hb5
        refine WL.gno rfl rfl hb5 ?_
        refine WL.gno rfl rfl hb5 ?_
        refine WL.gno rfl rfl hb5 ?_
        refine WL.valw (R.pickT rfl hb5 rfl) ?_
        exact WL.nil ⟨(congrArg boo (Option.some.inj hg6)), (by repeat (first | refine agree_upd rfl ?_ | refine agree_upds' rfl ?_ | exact agree_refl)), rfl⟩
      · replace hg6 := condF hg6 hb5
        refine WL.gyes rfl rfl hb5 ?_
        refine WL.valw (R.mv (v := (str p_ppend)) rfl) ?_
        refine WL.gyes rfl rfl hb5 ?_
        obtain ⟨c7, hc7, hg6⟩ := bindE hg6
        refine WL.valw (R.idxS rfl rfl Tryd.underlying9 hc7) ?_
        refine WL.gyes rfl rfl hb5 ?_
        refine WL.valw (R.neq8 (a := c7) (b := 32) rfl rfl) ?_
        refine WL.valw (R.pickF rfl hb5 rfl) ?_
        exact WL.nil ⟨(congrArg boo (Option.some.inj hg6)), (by repeat (first | refine agree_upd rfl ?_ | refine agree_upds' rfl ?_ | exact agree_refl)), rfl⟩
    · intro us
      refine WL.valw (R.mv (v := (boo b8)) rfl) ?_
      obtain ⟨b12, hg10, h⟩ := bindE h
      refine WL.grp 4 [31, 32, 33] 34 (boo b12) ?_ ?_
      · rcases boolE b8 with hb9 | hb9
        · replace hg10 := condT hg10 hb9
          refine WL.gno rfl rfl hb9 ?_
          refine WL.gno rfl rfl hb9 ?_
          refine WL.gno rfl rfl hb9 ?_
          refine WL.valw (R.pickT rfl hb9 rfl) ?_
          exact WL.nil ⟨(congrArg boo (Option.some.inj hg10)), (by repeat (first | refine agree_upd rfl ?_ | refine agree_upds' rfl ?_ | exact agree_refl)), rfl⟩
        · replace hg10 := condF hg10 hb9
          refine WL.gyes rfl rfl hb9 ?_
          refine WL.valw (R.mv (v := (str p_ppend)) rfl) ?_
          refine WL.gyes rfl rfl hb9 ?_
          obtain ⟨c11, hc11, hg10⟩ := bindE hg10
          refine WL.valw (R.idxS rfl rfl Tryd.underlying9 hc11) ?_
          refine WL.gyes rfl rfl hb9 ?_
          refine WL.valw (R.neq8 (a := c11) (b := 32) rfl rfl) ?_
          refine WL.valw (R.pickF rfl hb9 rfl) ?_
          exact WL.nil ⟨(congrArg boo (Option.some.inj hg10)), (by repeat (first | refine agree_upd rfl ?_ | refine agree_upds' rfl ?_ | exact agree_refl)), rfl⟩
      · intro us
        refine WL.valw (R.mv (v := (boo b12)) rfl) ?_
        obtain ⟨b16, hg14, h⟩ := bindE h
        refine WL.grp 4 [36, 37, 38] 39 (boo b16) ?_ ?_
        · rcases boolE b12 with hb13 | hb13
          · replace hg14 := condT hg14 hb13
            refine WL.gno rfl rfl hb13 ?_
            refine WL.gno rfl rfl hb13 ?_
            refine WL.gno rfl rfl hb13 ?_
            refine WL.valw (R.pickT rfl hb13 rfl) ?_
            exact WL.nil ⟨(congrArg boo (Option.some.inj hg14)), (by repeat (first | refine agree_upd rfl ?_ | refine agree_upds' rfl ?_ | exact agree_refl)), rfl⟩
          · replace hg14 := condF hg14 hb13
            refine WL.gyes rfl rfl hb13 ?_
            refine WL.valw (R.mv (v := (str p_ppend)) rfl) ?_
            refine WL.gyes rfl rfl hb13 ?_
            obtain ⟨c15, hc15, hg14⟩ := bindE hg14
            refine WL.valw (R.idxS rfl rfl Tryd.underlying9 hc15) ?_
            refine WL.gyes rfl rfl hb13 ?_
            refine WL.valw (R.neq8 (a := c15) (b := 32) rfl rfl) ?_
            refine WL.valw (R.pickF rfl hb13 rfl) ?_
            exact WL.nil ⟨(congrArg boo (Option.some.inj hg14)), (by repeat (first | refine agree_upd rfl ?_ | refine agree_upds' rfl ?_ | exact agree_refl)), rfl⟩
        · intro us
          refine WL.valw (R.mv (v := (boo b16)) rfl) ?_
          obtain ⟨b20, hg18, h⟩ := bindE h
          refine WL.grp 4 [41, 42, 43] 44 (boo b20) ?_ ?_
          · rcases boolE b16 with hb17 | hb17
            · replace hg18 := condT hg18 hb17
              refine WL.gno rfl rfl hb17 ?_
              refine WL.gno rfl rfl hb17 ?_
              refine WL.gno rfl rfl hb17 ?_
              refine WL.valw (R.pickT rfl hb17 rfl) ?_
              exact WL.nil ⟨(congrArg boo (Option.some.inj hg18)), (by repeat (first | refine agree_upd rfl ?_ | refine agree_upds' rfl ?_ | exact agree_refl)), rfl⟩
            · replace hg18 := condF hg18 hb17
              refine WL.gyes rfl rfl hb17 ?_
              refine WL.valw (R.mv (v := (str p_ppend)) rfl) ?_
              refine WL.gyes rfl rfl hb17 ?_
              obtain ⟨c19, hc19, hg18⟩ := bindE hg18
              refine WL.valw (R.idxS rfl rfl Tryd.underlying9 hc19) ?_
              refine WL.gyes rfl rfl hb17 ?_
              refine WL.valw (R.neq8 (a := c19) (b := 58) rfl rfl) ?_
              refine WL.valw (R.pickF rfl hb17 rfl) ?_
              exact WL.nil ⟨(congrArg boo (Option.some.inj hg18)), (by repeat (first | refine agree_upd rfl ?_ | refine agree_upds' rfl ?_ | exact agree_refl)), rfl⟩
          · intro us
            refine WL.valw (R.mv (v := (boo b20)) rfl) ?_
            obtain ⟨b24, hg22, h⟩ := bindE h
            refine WL.grp 4 [46, 47, 48] 49 (boo b24) ?_ ?_
            · rcases boolE b20 with hb21 | hb21
              · replace hg22 := condT hg22 hb21
                refine WL.gno rfl rfl hb21 ?_
                refine WL.gno rfl rfl hb21 ?_
                refine WL.gno rfl rfl hb21 ?_
                refine WL.valw (R.pickT rfl hb21 rfl) ?_
                exact WL.nil ⟨(congrArg boo (Option.some.inj hg22)), (by repeat (first | refine agree_upd rfl ?_ | refine agree_upds' rfl ?_ | exact agree_refl)), rfl⟩
              · replace hg22 := condF hg22 hb21
                refine WL.gyes rfl rfl hb21 ?_
                refine WL.valw (R.mv (v := (str p_ppend)) rfl) ?_
                refine WL.gyes rfl rfl hb21 ?_
                obtain ⟨c23, hc23, hg22⟩ := bindE hg22
                refine WL.valw (R.idxS rfl rfl Tryd.underlying9 hc23) ?_
                refine WL.gyes rfl rfl hb21 ?_
                refine WL.valw (R.neq8 (a := c23) (b := 58) rfl rfl) ?_
                refine WL.valw (R.pickF rfl hb21 rfl) ?_
                exact WL.nil ⟨(congrArg boo (Option.some.inj hg22)), (by repeat (first | refine agree_upd rfl ?_ | refine agree_upds' rfl ?_ | exact agree_refl)), rfl⟩
            · intro us
              refine WL.valw (R.mv (v := (boo b24)) rfl) ?_
              obtain ⟨b28, hg26, h⟩ := bindE h
              refine WL.grp 4 [51, 52, 53] 54 (boo b28) ?_ ?_
              · rcases boolE b24 with hb25 | hb25
                · replace hg26 := condT hg26 hb25
                  refine WL.gno rfl rfl hb25 ?_
                  refine WL.gno rfl rfl hb25 ?_
                  refine WL.gno rfl rfl hb25 ?_
                  refine WL.valw (R.pickT rfl hb25 rfl) ?_
                  exact WL.nil ⟨(congrArg boo (Option.some.inj hg26)), (by repeat (first | refine agree_upd rfl ?_ | refine agree_upds' rfl ?_ | exact agree_refl)), rfl⟩
                · replace hg26 := condF hg26 hb25
                  refine WL.gyes rfl rfl hb25 ?_
                  refine WL.valw (R.mv (v := (str p_ppend)) rfl) ?_
                  refine WL.gyes rfl rfl hb25 ?_
                  obtain ⟨s27, hs27, hg26⟩ := bindE hg26
                  refine WL.valw (R.subSlo rfl rfl Tryd.underlying9 hs27) ?_
                  refine WL.gyes rfl rfl hb25 ?_
                  refine WL.valw (R.neqS (a := s27) (b := [32, 71, 77, 84]) rfl rfl) ?_
                  refine WL.valw (R.pickF rfl hb25 rfl) ?_
                  exact WL.nil ⟨(congrArg boo (Option.some.inj hg26)), (by repeat (first | refine agree_upd rfl ?_ | refine agree_upds' rfl ?_ | exact agree_refl)), rfl⟩
              · intro us
                refine WL.nil ?_
                rcases condE h with ⟨hc29, h⟩ | ⟨hc29, h⟩
                · refine WP.condT rfl hc29 ?_
                  refine WP.seq ?_
                  refine WP.region ?_
                  refine WL.valw (R.as (v := (int 0)) rfl) ?_
                  refine WL.valw (R.as (v := (boo false)) rfl) ?_
                  refine WL.nil ?_
                  obtain rfl := Option.some.inj h
                  refine WP.ret (Out.two rfl S rfl rfl ?_)
                  exact rfl
                · refine WP.condF rfl hc29 ?_
                  refine WP.skip ?_
                  refine WP.seq ?_
                  refine WP.region ?_
                  refine WL.valw (R.mv (v := (str p_ppend)) rfl) ?_
                  obtain ⟨r30, hr30, h⟩ := bindE h
                  refine W.call S rfl (ref19_digits_ok S.holds p_ppend 5 2 hr30) ?_
                  rintro v31 w32 H33 hle34 S rfl
                  refine WL.valw (R.mv (v := (.tuple ⟨[(int r30.1), (boo r30.2)]⟩)) rfl) ?_
                  refine WL.valw (R.ext rfl rfl) ?_
                  refine WL.valw (R.ext rfl rfl) ?_
                  refine WL.valw (R.as (v := (int r30.1)) rfl) ?_
                  refine WL.valw (R.as (v := (boo r30.2)) rfl) ?_
                  refine WL.nil ?_
                  refine WP.seq ?_
                  refine WP.region ?_
                  refine WL.valw (R.mv (v := (str p_ppend)) rfl) ?_
                  obtain ⟨r35, hr35, h⟩ := bindE h
                  refine W.call S rfl (ref19_digits_ok S.holds p_ppend 12 4 hr35) ?_
                  rintro v36 w37 H38 hle39 S rfl
                  refine WL.valw (R.mv (v := (.tuple ⟨[(int r35.1), (boo r35.2)]⟩)) rfl) ?_
                  refine WL.valw (R.ext rfl rfl) ?_
                  refine WL.valw (R.ext rfl rfl) ?_
                  refine WL.valw (R.as (v := (int r35.1)) rfl) ?_
                  refine WL.valw (R.as (v := (boo r35.2)) rfl) ?_
                  refine WL.nil ?_
                  refine WP.seq ?_
                  refine WP.region ?_
                  refine WL.valw (R.mv (v := (str p_ppend)) rfl) ?_
                  obtain ⟨r40, hr40, h⟩ := bindE h
                  refine W.call S rfl (ref19_digits_ok S.holds p_ppend 17 2 hr40) ?_
                  rintro v41 w42 H43 hle44 S rfl
                  refine WL.valw (R.mv (v := (.tuple ⟨[(int r40.1), (boo r40.2)]⟩)) rfl) ?_
                  refine WL.valw (R.ext rfl rfl) ?_
                  refine WL.valw (R.ext rfl rfl) ?_
                  refine WL.valw (R.as (v := (int r40.1)) rfl) ?_
                  refine WL.valw (R.as (v := (boo r40.2)) rfl) ?_
                  refine WL.nil ?_
                  refine WP.seq ?_
                  refine WP.region ?_
                  refine WL.valw (R.mv (v := (str p_ppend)) rfl) ?_
                  obtain ⟨r45, hr45, h⟩ := bindE h
                  refine W.call S rfl (ref19_digits_ok S.holds p_ppend 20 2 hr45) ?_
                  rintro v46 w47 H48 hle49 S rfl
                  refine WL.valw (R.mv (v := (.tuple ⟨[(int r45.1), (boo r45.2)]⟩)) rfl) ?_
                  refine WL.valw (R.ext rfl rfl) ?_
                  refine WL.valw (R.ext rfl rfl) ?_
                  refine WL.valw (R.as (v := (int r45.1)) rfl) ?_
                  refine WL.valw (R.as (v := (boo r45.2)) rfl) ?_
                  refine WL.nil ?_
                  refine WP.seq ?_
                  refine WP.region ?_
                  refine WL.valw (R.mv (v := (str p_ppend)) rfl) ?_
                  obtain ⟨r50, hr50, h⟩ := bindE h
                  refine W.call S rfl (ref19_digits_ok S.holds p_ppend 23 2 hr50) ?_
                  rintro v51 w52 H53 hle54 S rfl
                  refine WL.valw (R.mv (v := (.tuple ⟨[(int r50.1), (boo r50.2)]⟩)) rfl) ?_
                  refine WL.valw (R.ext rfl rfl) ?_
                  refine WL.valw (R.ext rfl rfl) ?_
                  refine WL.valw (R.as (v := (int r50.1)) rfl) ?_
                  refine WL.valw (R.as (v := (boo r50.2)) rfl) ?_
                  refine WL.nil ?_
                  refine WP.seq ?_
                  refine WP.region ?_
                  refine WL.valw (R.as (v := (int 0)) rfl) ?_
                  refine WL.nil ?_
                  refine WP.seq ?_
                  refine WP.seq ?_
                  refine WP.region ?_
                  refine WL.valw (R.as (v := (int 0)) rfl) ?_
                  refine WL.nil ?_
                  obtain ⟨y_83, hr89, h⟩ := bindE h
                  refine WP.cut (fun f w => ∃ (H71 : Hp), f 0 = (str p_ppend) ∧ f 4 = (int r30.1) ∧ f 5 = (boo r30.2) ∧ f 6 = (int r35.1) ∧ f 7 = (boo r35.2) ∧ f 8 = (int r40.1) ∧ f 9 = (boo r40.2) ∧ f 10 = (int r45.1) ∧ f 11 = (boo r45.2) ∧ f 12 = (int r50.1) ∧ f 13 = (boo r50.2) ∧ f 14 = (int y_83) ∧ St w0 H0 w H71 []) ?_ ?_
                  · refine WP.block ?_
                    refine WP.loopM (ref19_ParseDate_L0 p_ppend) (fun s f w => match s with | (y_67, y_69) => ∃ (H55 : Hp), f 0 = (str p_ppend) ∧ f 4 = (int r30.1) ∧ f 5 = (boo r30.2) ∧ f 6 = (int r35.1) ∧ f 7 = (boo r35.2) ∧ f 8 = (int r40.1) ∧ f 9 = (boo r40.2) ∧ f 10 = (int r45.1) ∧ f 11 = (boo r45.2) ∧ f 12 = (int r50.1) ∧ f 13 = (boo r50.2) ∧ f 14 = (int y_67) ∧ f 15 = (int y_69) ∧ St w0 H0 w H55 []) (0, 0) y_83 hr89 ?_ ?_
                    · exact ⟨H53, rfl, rfl, rfl, rfl, rfl, rfl, rfl, rfl, rfl, rfl, rfl, rfl, rfl, S⟩
                    · intro s f w hI y85 hy86 hy87
                      obtain ⟨y_67, y_69⟩ := s
                      obtain ⟨H55, h56, h57, h58, h59, h60, h61, h62, h63, h64, h65, h66, h68, h70, S⟩ := hI
                      refine WP.seq ?_
                      refine WP.seq ?_
                      refine WP.region ?_
                      refine WL.valw (R.mv (v := (int y_69)) h70) ?_
                      refine WL.valw (R.lss rfl rfl) ?_
                      refine WL.nil ?_
                      rcases condE hy86 with ⟨hc90, hy86⟩ | ⟨hc90, hy86⟩
                      · refine WP.condT rfl hc90 ?_
                        refine WP.skip ?_
                        refine WP.seq ?_
                        refine WP.block ?_
                        refine WP.seq ?_
                        refine WP.quiet S (by kernel_rfl) (by kernel_rfl) ?_
                        refine WQ.val (fun _ _ => (R.mv (v := (int y_69)) h70)) ?_
                        refine WQ.val (fun _ _ => (R.mul rfl rfl)) ?_
                        refine WQ.val (fun _ _ => (R.mv (v := (int y_69)) h70)) ?_
                        refine WQ.val (fun _ _ => (R.mul rfl rfl)) ?_
                        refine WQ.val (fun _ _ => (R.add rfl rfl)) ?_
                        obtain ⟨s94, hs94, hy86⟩ := bindE hy86
                        refine WQ.val (fun _ _ => (R.subS rfl rfl rfl Tryd.underlying9 hs94)) ?_
                        refine WQ.val (fun _ _ => (R.mv (v := (str p_ppend)) h56)) ?_
                        obtain ⟨s95, hs95, hy86⟩ := bindE hy86
                        refine WQ.val (fun _ _ => (R.subS rfl rfl rfl Tryd.underlying9 hs95)) ?_
                        refine WQ.val (fun _ _ => (R.eqlS (a := s94) (b := s95) rfl rfl)) ?_
                        refine WQ.nil ?_
                        intro w91 H92 hle93 S
                        rcases condE hy86 with ⟨hc96, hy86⟩ | ⟨hc96, hy86⟩
                        · refine WP.condT rfl hc96 ?_
                          refine WP.region ?_
                          refine WL.valw (R.mv (v := (int y_69)) h70) ?_
                          refine WL.valw (R.add rfl rfl) ?_
                          refine WL.valw (R.as (v := (int (wr (y_69 + 1)))) rfl) ?_
                          refine WL.nil ?_
                          refine WP.region ?_
                          refine WL.valw (R.mv (v := (int y_69)) h70) ?_
                          refine WL.valw (R.add rfl rfl) ?_
                          refine WL.valw (R.as (v := (int (wr (y_69 + 1)))) rfl) ?_
                          refine WL.nil ?_
                          obtain rfl := Option.some.inj hy86
                          exact ⟨rfl, ⟨H92, h56, h57, h58, h59, h60, h61, h62, h63, h64, h65, h66, rfl, rfl, S⟩⟩
                        · refine WP.condF rfl hc96 ?_
                          refine WP.skip ?_
                          refine WP.region ?_
                          refine WL.valw (R.mv (v := (int y_69)) h70) ?_
                          refine WL.valw (R.add rfl rfl) ?_
                          refine WL.valw (R.as (v := (int (wr (y_69 + 1)))) rfl) ?_
                          refine WL.nil ?_
                          obtain rfl := Option.some.inj hy86
                          exact ⟨rfl, ⟨H92, h56, h57, h58, h59, h60, h61, h62, h63, h64, h65, h66, h68, rfl, S⟩⟩
                      · refine WP.condF rfl hc90 ?_
                        refine WP.exit ?_
                        obtain rfl := Option.some.inj hy86
                        obtain rfl := hy87
                        exact ⟨H55, h56, h57, h58, h59, h60, h61, h62, h63, h64, h65, h66, h68, S⟩
                  · rintro f w ⟨H71, h72, h73, h74, h75, h76, h77, h78, h79, h80, h81, h82, h84, S⟩
                    refine WP.seq ?_
                    refine WP.region ?_
                    refine WL.valw (R.mv (v := (int r35.1)) h75) ?_
                    refine WL.valw (R.mv (v := (int y_83)) h84) ?_
                    refine WL.valw (R.mv (v := (int r30.1)) h73) ?_
                    obtain ⟨r97, hr97, h⟩ := bindE h
                    refine W.call S rfl (ref19_Days_ok S.holds r35.1 y_83 r30.1 hr97) ?_
                    rintro v98 w99 H100 hle101 S rfl
                    refine WL.valw (R.as (v := (int r97)) rfl) ?_
                    refine WL.nil ?_
                    refine WP.seq ?_
                    refine WP.seq ?_
                    refine WP.quiet S (by kernel_rfl) (by kernel_rfl) ?_
                    refine WQ.val (fun _ _ => (R.mv (v := (boo r30.2)) h74)) ?_
                    refine WQ.val (fun _ _ => (R.not rfl)) ?_
                    refine WQ.val (fun _ _ => (R.mv (v := (boo (!r30.2))) rfl)) ?_
                    refine WQ.grp 3 [102, 103] 104 (boo ((!r30.2) || (!r35.2))) ?_ ?_
                    · rcases boolE (!r30.2) with hb105 | hb105
                      · refine WQ.gno rfl rfl hb105 ?_
                        refine WQ.gno rfl rfl hb105 ?_
                        refine WQ.val (fun _ _ => (R.pickT rfl hb105 rfl)) ?_
                        exact WQ.nil ⟨(orT hb105), (by repeat (first | refine agree_upd rfl ?_ | refine agree_upds' rfl ?_ | exact agree_refl))⟩
                      · refine WQ.gyes rfl rfl hb105 ?_
                        refine WQ.val (fun _ _ => (R.mv (v := (boo r35.2)) h76)) ?_
                        refine WQ.gyes rfl rfl hb105 ?_
                        refine WQ.val (fun _ _ => (R.not rfl)) ?_
                        refine WQ.val (fun _ _ => (R.pickF rfl hb105 rfl)) ?_
                        exact WQ.nil ⟨(orF hb105), (by repeat (first | refine agree_upd rfl ?_ | refine agree_upds' rfl ?_ | exact agree_refl))⟩
                    · intro us
                      refine WQ.val (fun _ _ => (R.mv (v := (boo ((!r30.2) || (!r35.2)))) rfl)) ?_
                      refine WQ.grp 3 [106, 107] 108 (boo (((!r30.2) || (!r35.2)) || (!r40.2))) ?_ ?_
                      · rcases boolE ((!r30.2) || (!r35.2)) with hb107 | hb107
                        · refine WQ.gno rfl rfl hb107 ?_
                          refine WQ.gno rfl rfl hb107 ?_
                          refine WQ.val (fun _ _ => (R.pickT rfl hb107 rfl)) ?_
                          exact WQ.nil ⟨(orT hb107), (by repeat (first | refine agree_upd rfl ?_ | refine agree_upds' rfl ?_ | exact agree_refl))⟩
                        · refine WQ.gyes rfl rfl hb107 ?_
                          refine WQ.val (fun _ _ => (R.mv (v := (boo r40.2)) h78)) ?_
                          refine WQ.gyes rfl rfl hb107 ?_
                          refine WQ.val (fun _ _ => (R.not rfl)) ?_
                          refine WQ.val (fun _ _ => (R.pickF rfl hb107 rfl)) ?_
                          exact WQ.nil ⟨(orF hb107), (by repeat (first | refine agree_upd rfl ?_ | refine agree_upds' rfl ?_ | exact agree_refl))⟩
                      · intro us
                        refine WQ.val (fun _ _ => (R.mv (v := (boo (((!r30.2) || (!r35.2)) || (!r40.2)))) rfl)) ?_
                        refine WQ.grp 3 [110, 111] 112 (boo ((((!r30.2) || (!r35.2)) || (!r40.2)) || (!r45.2))) ?_ ?_
                        · rcases boolE (((!r30.2) || (!r35.2)) || (!r40.2)) with hb109 | hb109
                          · refine WQ.gno rfl rfl hb109 ?_
                            refine WQ.gno rfl rfl hb109 ?_
                            refine WQ.val (fun _ _ => (R.pickT rfl hb109 rfl)) ?_
                            exact WQ.nil ⟨(orT hb109), (by repeat (first | refine agree_upd rfl ?_ | refine agree_upds' rfl ?_ | exact agree_refl))⟩
                          · refine WQ.gyes rfl rfl hb109 ?_
                            refine WQ.val (fun _ _ => (R.mv (v := (boo r45.2)) h80)) ?_
                            refine WQ.gyes rfl rfl hb109 ?_
                            refine WQ.val (fun _ _ => (R.not rfl)) ?_
                            refine WQ.val (fun _ _ => (R.pickF rfl hb109 rfl)) ?_
                            exact WQ.nil ⟨(orF hb109), (by repeat (first | refine agree_upd rfl ?_ | refine agree_upds' rfl ?_ | exact agree_refl))⟩
                        · intro us
                          refine WQ.val (fun _ _ => (R.mv (v := (boo ((((!r30.2) || (!r35.2)) || (!r40.2)) || (!r45.2)))) rfl)) ?_
                          refine WQ.grp 3 [114, 115] 116 (boo (((((!r30.2) || (!r35.2)) || (!r40.2)) || (!r45.2)) || (!r50.2))) ?_ ?_
                          · rcases boolE ((((!r30.2) || (!r35.2)) || (!r40.2)) || (!r45.2)) with hb111 | hb111
                            · refine WQ.gno rfl rfl hb111 ?_
                              refine WQ.gno rfl rfl hb111 ?_
                              refine WQ.val (fun _ _ => (R.pickT rfl hb111 rfl)) ?_
                              exact WQ.nil ⟨(orT hb111), (by repeat (first | refine agree_upd rfl ?_ | refine agree_upds' rfl ?_ | exact agree_refl))⟩
                            · refine WQ.gyes rfl rfl hb111 ?_
                              refine WQ.val (fun _ _ => (R.mv (v := (boo r50.2)) h82)) ?_
                              refine WQ.gyes rfl rfl hb111 ?_
                              refine WQ.val (fun _ _ => (R.not rfl)) ?_
                              refine WQ.val (fun _ _ => (R.pickF rfl hb111 rfl)) ?_
                              exact WQ.nil ⟨(orF hb111), (by repeat (first | refine agree_upd rfl ?_ | refine agree_upds' rfl ?_ | exact agree_refl))⟩
                          · intro us
                            refine WQ.val (fun _ _ => (R.mv (v := (boo (((((!r30.2) || (!r35.2)) || (!r40.2)) || (!r45.2)) || (!r50.2)))) rfl)) ?_
                            refine WQ.grp 3 [118, 119] 120 (boo ((((((!r30.2) || (!r35.2)) || (!r40.2)) || (!r45.2)) || (!r50.2)) || (decide (r97 < 0)))) ?_ ?_
                            · rcases boolE (((((!r30.2) || (!r35.2)) || (!r40.2)) || (!r45.2)) || (!r50.2)) with hb113 | hb113
                              · refine WQ.gno rfl rfl hb113 ?_
                                refine WQ.gno rfl rfl hb113 ?_
                                refine WQ.val (fun _ _ => (R.pickT rfl hb113 rfl)) ?_
                                exact WQ.nil ⟨(orT hb113), (by repeat (first | refine agree_upd rfl ?_ | refine agree_upds' rfl ?_ | exact agree_refl))⟩
                              · refine WQ.gyes rfl rfl hb113 ?_
                                refine WQ.val (fun _ _ => (R.mv (v := (int r97)) rfl)) ?_
                                refine WQ.gyes rfl rfl hb113 ?_
                                refine WQ.val (fun _ _ => (R.lss rfl rfl)) ?_
                                refine WQ.val (fun _ _ => (R.pickF rfl hb113 rfl)) ?_
                                exact WQ.nil ⟨(orF hb113), (by repeat (first | refine agree_upd rfl ?_ | refine agree_upds' rfl ?_ | exact agree_refl))⟩
                            · intro us
                              refine WQ.val (fun _ _ => (R.mv (v := (boo ((((((!r30.2) || (!r35.2)) || (!r40.2)) || (!r45.2)) || (!r50.2)) || (decide (r97 < 0))))) rfl)) ?_
                              refine WQ.grp 3 [122, 123] 124 (boo (((((((!r30.2) || (!r35.2)) || (!r40.2)) || (!r45.2)) || (!r50.2)) || (decide (r97 < 0))) || (decide (23 < r40.1)))) ?_ ?_
                              · rcases boolE ((((((!r30.2) || (!r35.2)) || (!r40.2)) || (!r45.2)) || (!r50.2)) || (decide (r97 < 0))) with hb115 | hb115
                                · refine WQ.gno rfl rfl hb115 ?_
                                  refine WQ.gno rfl rfl hb115 ?_
                                  refine WQ.val (fun _ _ => (R.pickT rfl hb115 rfl)) ?_
                                  exact WQ.nil ⟨(orT hb115), (by repeat (first | refine agree_upd rfl ?_ | refine agree_upds' rfl ?_ | exact agree_refl))⟩
                                · refine WQ.gyes rfl rfl hb115 ?_
                                  refine WQ.val (fun _ _ => (R.mv (v := (int r40.1)) h77)) ?_
                                  refine WQ.gyes rfl rfl hb115 ?_
                                  refine WQ.val (fun _ _ => (R.gtr rfl rfl)) ?_
                                  refine WQ.val (fun _ _ => (R.pickF rfl hb115 rfl)) ?_
                                  exact WQ.nil ⟨(orF hb115), (by repeat (first | refine agree_upd rfl ?_ | refine agree_upds' rfl ?_ | exact agree_refl))⟩
                              · intro us
                                refine WQ.val (fun _ _ => (R.mv (v := (boo (((((((!r30.2) || (!r35.2)) || (!r40.2)) || (!r45.2)) || (!r50.2)) || (decide (r97 < 0))) || (decide (23 < r40.1))))) rfl)) ?_
                                refine WQ.grp 3 [126, 127] 128 (boo ((((((((!r30.2) || (!r35.2)) || (!r40.2)) || (!r45.2)) || (!r50.2)) || (decide (r97 < 0))) || (decide (23 < r40.1))) || (decide (59 < r45.1)))) ?_ ?_
                                · rcases boolE (((((((!r30.2) || (!r35.2)) || (!r40.2)) || (!r45.2)) || (!r50.2)) || (decide (r97 < 0))) || (decide (23 < r40.1))) with hb117 | hb117
                                  · refine WQ.gno rfl rfl hb117 ?_
                                    refine WQ.gno rfl rfl hb117 ?_
                                    refine WQ.val (fun _ _ => (R.pickT rfl hb117 rfl)) ?_
                                    exact WQ.nil ⟨(orT hb117), (by repeat (first | refine agree_upd rfl ?_ | refine agree_upds' rfl ?_ | exact agree_refl))⟩
                                  · refine WQ.gyes rfl rfl hb117 ?_
                                    refine WQ.val (fun _ _ => (R.mv (v := (int r45.1)) h79)) ?_
                                    refine WQ.gyes rfl rfl hb117 ?_
                                    refine WQ.val (fun _ _ => (R.gtr rfl rfl)) ?_
                                    refine WQ.val (fun _ _ => (R.pickF rfl hb117 rfl)) ?_
                                    exact WQ.nil ⟨(orF hb117), (by repeat (first | refine agree_upd rfl ?_ | refine agree_upds' rfl ?_ | exact agree_refl))⟩
                                · intro us
                                  refine WQ.val (fun _ _ => (R.mv (v := (boo ((((((((!r30.2) || (!r35.2)) || (!r40.2)) || (!r45.2)) || (!r50.2)) || (decide (r97 < 0))) || (decide (23 < r40.1))) || (decide (59 < r45.1))))) rfl)) ?_
                                  refine WQ.grp 3 [130, 131] 132 (boo (((((((((!r30.2) || (!r35.2)) || (!r40.2)) || (!r45.2)) || (!r50.2)) || (decide (r97 < 0))) || (decide (23 < r40.1))) || (decide (59 < r45.1))) || (decide (59 < r50.1)))) ?_ ?_
                                  · rcases boolE ((((((((!r30.2) || (!r35.2)) || (!r40.2)) || (!r45.2)) || (!r50.2)) || (decide (r97 < 0))) || (decide (23 < r40.1))) || (decide (59 < r45.1))) with hb119 | hb119
                                    · refine WQ.gno rfl rfl hb119 ?_
                                      refine WQ.gno rfl rfl hb119 ?_
                                      refine WQ.val (fun _ _ => (R.pickT rfl hb119 rfl)) ?_
                                      exact WQ.nil ⟨(orT hb119), (by repeat (first | refine agree_upd rfl ?_ | refine agree_upds' rfl ?_ | exact agree_refl))⟩
                                    · refine WQ.gyes rfl rfl hb119 ?_
                                      refine WQ.val (fun _ _ => (R.mv (v := (int r50.1)) h81)) ?_
                                      refine WQ.gyes rfl rfl hb119 ?_
                                      refine WQ.val (fun _ _ => (R.gtr rfl rfl)) ?_
                                      refine WQ.val (fun _ _ => (R.pickF rfl hb119 rfl)) ?_
                                      exact WQ.nil ⟨(orF hb119), (by repeat (first | refine agree_upd rfl ?_ | refine agree_upds' rfl ?_ | exact agree_refl))⟩
                                  · intro us
                                    refine WQ.val (fun _ _ => (R.mv (v := (boo (((((((((!r30.2) || (!r35.2)) || (!r40.2)) || (!r45.2)) || (!r50.2)) || (decide (r97 < 0))) || (decide (23 < r40.1))) || (decide (59 < r45.1))) || (decide (59 < r50.1))))) rfl)) ?_
                                    obtain ⟨b127, hg122, h⟩ := bindE h
                                    refine WQ.grp 12 [134, 135, 136, 137, 138, 139, 140, 141, 142, 143, 144] 145 (boo b127) ?_ ?_
                                    · rcases boolE (((((((((!r30.2) || (!r35.2)) || (!r40.2)) || (!r45.2)) || (!r50.2)) || (decide (r97 < 0))) || (decide (23 < r40.1))) || (decide (59 < r45.1))) || (decide (59 < r50.1))) with hb121 | hb121
                                      · replace hg122 := condT hg122 hb121
                                        refine WQ.gno rfl rfl hb121 ?_
                                        refine WQ.gno rfl rfl hb121 ?_
                                        refine WQ.gno rfl rfl hb121 ?_
                                        refine WQ.gno rfl rfl hb121 ?_
                                        refine WQ.gno rfl rfl hb121 ?_
                                        refine WQ.gno rfl rfl hb121 ?_
                                        refine WQ.gno rfl rfl hb121 ?_
                                        refine WQ.gno rfl rfl hb121 ?_
                                        refine WQ.gno rfl rfl hb121 ?_
                                        refine WQ.gno rfl rfl hb121 ?_
                                        refine WQ.gno rfl rfl hb121 ?_
                                        refine WQ.val (fun _ _ => (R.pickT rfl hb121 rfl)) ?_
                                        exact WQ.nil ⟨(congrArg boo (Option.some.inj hg122)), (by repeat (first | refine agree_upd rfl ?_ | refine agree_upds' rfl ?_ | exact agree_refl))⟩
                                      · replace hg122 := condF hg122 hb121
                                        refine WQ.gyes rfl rfl hb121 ?_
                                        refine WQ.val (fun _ _ => (R.mv (v := (int r97)) rfl)) ?_
                                        refine WQ.gyes rfl rfl hb121 ?_
                                        obtain ⟨n123, hn123, hg122⟩ := bindE hg122
                                        refine WQ.val (fun _ _ => (R.rem' rfl rfl hn123)) ?_
                                        refine WQ.gyes rfl rfl hb121 ?_
                                        refine WQ.val (fun _ _ => (R.mul rfl rfl)) ?_
                                        refine WQ.gyes rfl rfl hb121 ?_
                                        refine WQ.val (fun _ _ => (R.mv (v := (int r97)) rfl)) ?_
                                        refine WQ.gyes rfl rfl hb121 ?_
                                        obtain ⟨n124, hn124, hg122⟩ := bindE hg122
                                        refine WQ.val (fun _ _ => (R.rem' rfl rfl hn124)) ?_
                                        refine WQ.gyes rfl rfl hb121 ?_
                                        refine WQ.val (fun _ _ => (R.mul rfl rfl)) ?_
                                        refine WQ.gyes rfl rfl hb121 ?_
                                        refine WQ.val (fun _ _ => (R.add rfl rfl)) ?_
                                        refine WQ.gyes rfl rfl hb121 ?_
                                        obtain ⟨s125, hs125, hg122⟩ := bindE hg122
                                        refine WQ.val (fun _ _ => (R.subS rfl rfl rfl Tryd.underlying9 hs125)) ?_
                                        refine WQ.gyes rfl rfl hb121 ?_
                                        refine WQ.val (fun _ _ => (R.mv (v := (str p_ppend)) h72)) ?_
                                        refine WQ.gyes rfl rfl hb121 ?_
                                        obtain ⟨s126, hs126, hg122⟩ := bindE hg122
                                        refine WQ.val (fun _ _ => (R.subShi rfl rfl Tryd.underlying9 hs126)) ?_
                                        refine WQ.gyes rfl rfl hb121 ?_
                                        refine WQ.val (fun _ _ => (R.neqS (a := s125) (b := s126) rfl rfl)) ?_
                                        refine WQ.val (fun _ _ => (R.pickF rfl hb121 rfl)) ?_
                                        exact WQ.nil ⟨(congrArg boo (Option.some.inj hg122)), (by repeat (first | refine agree_upd rfl ?_ | refine agree_upds' rfl ?_ | exact agree_refl))⟩
                                    · intro us
                                      refine WQ.nil ?_
                                      intro w102 H103 hle104 S
                                      rcases condE h with ⟨hc128, h⟩ | ⟨hc128, h⟩
                                      · refine WP.condT rfl hc128 ?_
                                        refine WP.seq ?_
                                        refine WP.region ?_
                                        refine WL.valw (R.as (v := (int 0)) rfl) ?_
                                        refine WL.valw (R.as (v := (boo false)) rfl) ?_
                                        refine WL.nil ?_
                                        obtain rfl := Option.some.inj h
                                        refine WP.ret (Out.two rfl S rfl rfl ?_)
                                        exact rfl
                                      · refine WP.condF rfl hc128 ?_
                                        refine WP.skip ?_
                                        refine WP.seq ?_
                                        refine WP.region ?_
                                        refine WL.valw (R.mv (v := (int r97)) rfl) ?_
                                        refine WL.valw (R.mul rfl rfl) ?_
                                        refine WL.valw (R.mv (v := (int r40.1)) h77) ?_
                                        refine WL.valw (R.mul rfl rfl) ?_
                                        refine WL.valw (R.mv (v := (int r45.1)) h79) ?_
                                        refine WL.valw (R.mul rfl rfl) ?_
                                        refine WL.valw (R.add rfl rfl) ?_
                                        refine WL.valw (R.mv (v := (int r50.1)) h81) ?_
                                        refine WL.valw (R.add rfl rfl) ?_
                                        refine WL.valw (R.add rfl rfl) ?_
                                        refine WL.valw (R.as (v := (int (wr ((wr (r97 * 86400)) + (wr ((wr ((wr (r40.1 * 3600)) + (wr (r45.1 * 60)))) + r50.1)))))) rfl) ?_
                                        refine WL.valw (R.as (v := (boo true)) rfl) ?_
                                        refine WL.nil ?_
                                        obtain rfl := Option.some.inj h
                                        refine WP.ret (Out.two rfl S rfl rfl ?_)
                                        exact rfl
set_option maxRecDepth 10000 in
set_option maxHeartbeats 4000000 in
theorem ref19_firstDate_ok {w0 : World} {H0 : Hp} (hw : Holds w0 H0) (p_l : (List GField)) (p_name : Str) {vp_l : Value} (Rp_l : Sl (α := GField) H0 vp_l p_l) {r : (Int × Bool)} (h : ref19_firstDate p_l p_name = some r) :
    Con Tryd.prog 54 [vp_l, (str p_name)] w0 H0 (fun H' v => v = (.tuple ⟨[(int r.1), (boo r.2)]⟩)) := by
  refine Con.mk (N := 20) Tryd.func54 rfl rfl (by kernel_rfl) rfl ?_
  have S := St.start hw
  refine WP.seq ?_
  refine WP.region ?_
  refine WL.valw (R.as (v := (int 0)) rfl) ?_
  refine WL.valw (R.as (v := (boo false)) rfl) ?_
  refine WL.nil ?_
  refine WP.seq ?_
  refine WP.region ?_
  refine WL.valw (R.mv (v := vp_l) rfl) ?_
  refine WL.valw (R.mv (v := (str p_name)) rfl) ?_
  obtain ⟨r1, hr1, h⟩ := bindE h
  refine W.call S rfl (ref01_First_ok S.holds p_l p_name Rp_l hr1) ?_
  rintro v2 w3 H4 hle5 S rfl
  have Rp_l := Sl.mono Rp_l hle5
  refine WL.valw (R.mv (v := (.tuple ⟨[(str r1.1), (boo r1.2)]⟩)) rfl) ?_
  refine WL.valw (R.ext rfl rfl) ?_
  refine WL.valw (R.ext rfl rfl) ?_
  refine WL.valw (R.as (v := (str r1.1)) rfl) ?_
  refine WL.valw (R.as (v := (boo r1.2)) rfl) ?_
  refine WL.nil ?_
  refine WP.seq ?_
  refine WP.seq ?_
  refine WP.region ?_
  refine WL.valw (R.mv (v := (boo r1.2)) rfl) ?_
  refine WL.valw (R.not rfl) ?_
  refine WL.nil ?_
  rcases condE h with ⟨hc6, h⟩ | ⟨hc6, h⟩
  · refine WP.condT rfl hc6 ?_
    refine WP.seq ?_
    refine WP.region ?_
    refine WL.valw (R.as (v := (int 0)) rfl) ?_
    refine WL.valw (R.as (v := (boo false)) rfl) ?_
    refine WL.nil ?_
    obtain rfl := Option.some.inj h
    refine WP.ret (Out.two rfl S rfl rfl ?_)
    exact rfl
  · refine WP.condF rfl hc6 ?_
    refine WP.skip ?_
    refine WP.seq ?_
    refine WP.region ?_
    refine WL.valw (R.mv (v := (str r1.1)) rfl) ?_
    obtain ⟨r7, hr7, h⟩ := bindE h
    refine W.call S rfl (ref19_ParseDate_ok S.holds r1.1 hr7) ?_
    rintro v8 w9 H10 hle11 S rfl
    have Rp_l := Sl.mono Rp_l hle11
    refine WL.valw (R.ext rfl rfl) ?_
    refine WL.valw (R.ext rfl rfl) ?_
    refine WL.valw (R.as (v := (int r7.1)) rfl) ?_
    refine WL.valw (R.as (v := (boo r7.2)) rfl) ?_
    refine WL.nil ?_
    obtain rfl := Option.some.inj h
    refine WP.ret (Out.two rfl S rfl rfl ?_)
    exact rfl
set_option maxRecDepth 10000 in
set_option maxHeartbeats 4000000 in
theorem ref19_Lifetime_ok {w0 : World} {H0 : Hp} (hw : Holds w0 H0) (p_l : (List GField)) {vp_l : Value} (Rp_l : Sl (α := GField) H0 vp_l p_l) {r : Int} (h : ref19_Lifetime p_l = some r) :
    Con Tryd.prog 30 [vp_l] w0 H0 (fun H' v => v = (int r)) := by
  refine Con.mk (N := 41) Tryd.func30 rfl rfl (by kernel_rfl) rfl ?_
  have S := St.start hw
  refine WP.seq ?_
  refine WP.region ?_
  refine WL.valw (R.as (v := (int 0)) rfl) ?_
  refine WL.nil ?_
  refine WP.seq ?_
  refine WP.region ?_
  refine WL.valw (R.mv (v := vp_l) rfl) ?_
  obtain ⟨r1, hr1, h⟩ := bindE h
  refine W.call S rfl (ref19_ResponseControl_ok S.holds p_l Rp_l hr1) ?_
  rintro v2 w3 H4 hle5 S rfl
  have Rp_l := Sl.mono Rp_l hle5
  refine W.alloc [(boo false), (boo false), (boo false), (boo false), (boo false), (boo false), (boo false), (int 0), (int 0), (int 0), (int 0)] S zer32 ?_
  intro b6 w7 S
  refine W.store (i := 0) [(boo r1.fNoStore), (boo r1.fNoCache), (boo r1.fMustRevalidate), (boo r1.fProxyRevalidate), (boo r1.fPrivate), (boo r1.fPublic), (boo r1.fOnlyIfCached), (int r1.fMaxAge), (int r1.fSMaxAge), (int r1.fMinFresh), (int r1.fMaxStale)] S rfl rfl rfl lay32 rfl rfl (Nat.le_of_ble_eq_true rfl) rfl ?_
  intro w8 S
  refine WL.nil ?_
  refine WP.seq ?_
  refine WP.seq ?_
  refine WP.region ?_
  refine WL.valw (R.fieldB rfl fld32_8) ?_
  refine WL.valw (R.loadB (i := 0) (v := (int r1.fSMaxAge)) S rfl rfl lay3 rfl) ?_
  refine WL.valw (R.geq rfl rfl) ?_
  refine WL.nil ?_
  rcases condE h with ⟨hc9, h⟩ | ⟨hc9, h⟩
  · refine WP.condT rfl hc9 ?_
    refine WP.seq ?_
    refine WP.region ?_
    refine WL.valw (R.fieldB rfl fld32_8) ?_
    refine WL.valw (R.loadB (i := 0) (v := (int r1.fSMaxAge)) S rfl rfl lay3 rfl) ?_
    refine WL.valw (R.as (v := (int r1.fSMaxAge)) rfl) ?_
    refine WL.nil ?_
    obtain rfl := Option.some.inj h
    refine WP.ret (Out.one rfl S rfl ?_)
    exact rfl
  · refine WP.condF rfl hc9 ?_
    refine WP.skip ?_
    refine WP.seq ?_
    refine WP.seq ?_
    refine WP.region ?_
    refine WL.valw (R.fieldB rfl fld32_7) ?_
    refine WL.valw (R.loadB (i := 0) (v := (int r1.fMaxAge)) S rfl rfl lay3 rfl) ?_
    refine WL.valw (R.geq rfl rfl) ?_
    refine WL.nil ?_
    rcases condE h with ⟨hc10, h⟩ | ⟨hc10, h⟩
    · refine WP.condT rfl hc10 ?_
      refine WP.seq ?_
      refine WP.region ?_
      refine WL.valw (R.fieldB rfl fld32_7) ?_
      refine WL.valw (R.loadB (i := 0) (v := (int r1.fMaxAge)) S rfl rfl lay3 rfl) ?_
      refine WL.valw (R.as (v := (int r1.fMaxAge)) rfl) ?_
      refine WL.nil ?_
      obtain rfl := Option.some.inj h
      refine WP.ret (Out.one rfl S rfl ?_)
      exact rfl
    · refine WP.condF rfl hc10 ?_
      refine WP.skip ?_
      refine WP.seq ?_
      refine WP.region ?_
      refine WL.valw (R.mv (v := vp_l) rfl) ?_
      obtain ⟨r11, hr11, h⟩ := bindE h
      refine W.call S rfl (ref19_firstDate_ok S.holds p_l [69, 120, 112, 105, 114, 101, 115] Rp_l hr11) ?_
      rintro v12 w13 H14 hle15 S rfl
      have Rp_l := Sl.mono Rp_l hle15
      refine WL.valw (R.mv (v := (.tuple ⟨[(int r11.1), (boo r11.2)]⟩)) rfl) ?_
      refine WL.valw (R.ext rfl rfl) ?_
      refine WL.valw (R.ext rfl rfl) ?_
      refine WL.valw (R.as (v := (int r11.1)) rfl) ?_
      refine WL.valw (R.as (v := (boo r11.2)) rfl) ?_
      refine WL.nil ?_
      refine WP.seq ?_
      refine WP.region ?_
      refine WL.valw (R.mv (v := vp_l) rfl) ?_
      obtain ⟨r16, hr16, h⟩ := bindE h
      refine W.call S rfl (ref19_firstDate_ok S.holds p_l [68, 97, 116, 101] Rp_l hr16) ?_
      rintro v17 w18 H19 hle20 S rfl
      have Rp_l := Sl.mono Rp_l hle20
      refine WL.valw (R.mv (v := (.tuple ⟨[(int r16.1), (boo r16.2)]⟩)) rfl) ?_
      refine WL.valw (R.ext rfl rfl) ?_
      refine WL.valw (R.ext rfl rfl) ?_
      refine WL.valw (R.as (v := (int r16.1)) rfl) ?_
      refine WL.valw (R.as (v := (boo r16.2)) rfl) ?_
      refine WL.nil ?_
      refine WP.seq ?_
      refine WP.seq ?_
      refine WP.region ?_
      refine WL.valw (R.mv (v := (boo r11.2)) rfl) ?_
      refine WL.valw (R.not rfl) ?_
      refine WL.valw (R.mv (v := (boo (!r11.2))) rfl) ?_
      refine WL.grp 3 [33, 34] 35 (boo ((!r11.2) || (!r16.2))) ?_ ?_
      · rcases boolE (!r11.2) with hb21 | hb21
        · refine WL.gno rfl rfl hb21 ?_
          refine WL.gno rfl rfl hb21 ?_
          refine WL.valw (R.pickT rfl hb21 rfl) ?_
          exact WL.nil ⟨(orT hb21), (by repeat (first | refine agree_upd rfl ?_ | refine agree_upds' rfl ?_ | exact agree_refl)), rfl⟩
        · refine WL.gyes rfl rfl hb21 ?_
          refine WL.valw (R.mv (v := (boo r16.2)) rfl) ?_
          refine WL.gyes rfl rfl hb21 ?_
          refine WL.valw (R.not rfl) ?_
          refine WL.valw (R.pickF rfl hb21 rfl) ?_
          exact WL.nil ⟨(orF hb21), (by repeat (first | refine agree_upd rfl ?_ | refine agree_upds' rfl ?_ | exact agree_refl)), rfl⟩
      · intro us
        refine WL.nil ?_
        rcases condE h with ⟨hc23, h⟩ | ⟨hc23, h⟩
        · refine WP.condT rfl hc23 ?_
          refine WP.seq ?_
          refine WP.region ?_
          refine WL.valw (R.as (v := (int 0)) rfl) ?_
          refine WL.nil ?_
          obtain rfl := Option.some.inj h
          refine WP.ret (Out.one rfl S rfl ?_)
          exact rfl
        · refine WP.condF rfl hc23 ?_
          refine WP.skip ?_
          refine WP.seq ?_
          refine WP.region ?_
          refine WL.valw (R.mv (v := (int r11.1)) rfl) ?_
          refine WL.valw (R.mv (v := (int r16.1)) rfl) ?_
          refine WL.valw (R.sub rfl rfl) ?_
          refine WL.valw (R.max rfl rfl) ?_
          refine WL.valw (R.min rfl rfl) ?_
          refine WL.valw (R.as (v := (int (if 2147483647 < (if (wr (r11.1 - r16.1)) < 0 then 0 else (wr (r11.1 - r16.1))) then 2147483647 else (if (wr (r11.1 - r16.1)) < 0 then 0 else (wr (r11.1 - r16.1)))))) rfl) ?_
          refine WL.nil ?_
          obtain rfl := Option.some.inj h
          refine WP.ret (Out.one rfl S rfl ?_)
          exact rfl
set_option maxRecDepth 10000 in
set_option maxHeartbeats 4000000 in
theorem freshness_Date_ok {w0 : World} {H0 : Hp} (hw : Holds w0 H0) (p_l : (List GField)) (p_received : Int) {vp_l : Value} (Rp_l : Sl (α := GField) H0 vp_l p_l) {r : Int} (h : freshness_Date p_l p_received = some r) :
    Con Tryd.prog 31 [vp_l, (int p_received)] w0 H0 (fun H' v => v = (int r)) := by
  refine Con.mk (N := 15) Tryd.func31 rfl rfl (by kernel_rfl) rfl ?_
  have S := St.start hw
  refine WP.seq ?_
  refine WP.region ?_
  refine WL.valw (R.as (v := (int 0)) rfl) ?_
  refine WL.nil ?_
  refine WP.seq ?_
  refine WP.seq ?_
  refine WP.region ?_
  refine WL.valw (R.mv (v := vp_l) rfl) ?_
  obtain ⟨r1, hr1, h⟩ := bindE h
  refine W.call S rfl (freshness_first_ok S.holds p_l [68, 97, 116, 101] Rp_l hr1) ?_
  rintro v2 w3 H4 hle5 S rfl
  have Rp_l := Sl.mono Rp_l hle5
  refine WL.valw (R.mv (v := (.tuple ⟨[(int r1.1), (boo r1.2)]⟩)) rfl) ?_
  refine WL.valw (R.ext rfl rfl) ?_
  refine WL.valw (R.ext rfl rfl) ?_
  refine WL.valw (R.as (v := (int r1.1)) rfl) ?_
  refine WL.valw (R.as (v := (boo r1.2)) rfl) ?_
  refine WL.nil ?_
  refine WP.seq ?_
  refine WP.region ?_
  refine WL.valw (R.mv (v := (boo r1.2)) rfl) ?_
  refine WL.nil ?_
  rcases condE h with ⟨hc6, h⟩ | ⟨hc6, h⟩
  · refine WP.condT rfl hc6 ?_
    refine WP.seq ?_
    refine WP.region ?_
    refine WL.valw (R.mv (v := (int r1.1)) rfl) ?_
    refine WL.valw (R.as (v := (int r1.1)) rfl) ?_
    refine WL.nil ?_
    obtain rfl := Option.some.inj h
    refine WP.ret (Out.one rfl S rfl ?_)
    exact rfl
  · refine WP.condF rfl hc6 ?_
    refine WP.skip ?_
    refine WP.seq ?_
    refine WP.region ?_
    refine WL.valw (R.mv (v := (int p_received)) rfl) ?_
    refine WL.valw (R.as (v := (int p_received)) rfl) ?_
    refine WL.nil ?_
    obtain rfl := Option.some.inj h
    refine WP.ret (Out.one rfl S rfl ?_)
    exact rfl
set_option maxRecDepth 10000 in
set_option maxHeartbeats 4000000 in
theorem ref19_DateOf_ok {w0 : World} {H0 : Hp} (hw : Holds w0 H0) (p_l : (List GField)) (p_received : Int) {vp_l : Value} (Rp_l : Sl (α := GField) H0 vp_l p_l) {r : Int} (h : ref19_DateOf p_l p_received = some r) :
    Con Tryd.prog 32 [vp_l, (int p_received)] w0 H0 (fun H' v => v = (int r)) := by
  refine Con.mk (N := 15) Tryd.func32 rfl rfl (by kernel_rfl) rfl ?_
  have S := St.start hw
  refine WP.seq ?_
  refine WP.region ?_
  refine WL.valw (R.as (v := (int 0)) rfl) ?_
  refine WL.nil ?_
  refine WP.seq ?_
  refine WP.seq ?_
  refine WP.region ?_
  refine WL.valw (R.mv (v := vp_l) rfl) ?_
  obtain ⟨r1, hr1, h⟩ := bindE h
  refine W.call S rfl (ref19_firstDate_ok S.holds p_l [68, 97, 116, 101] Rp_l hr1) ?_
  rintro v2 w3 H4 hle5 S rfl
  have Rp_l := Sl.mono Rp_l hle5
  refine WL.valw (R.mv (v := (.tuple ⟨[(int r1.1), (boo r1.2)]⟩)) rfl) ?_
  refine WL.valw (R.ext rfl rfl) ?_
  refine WL.valw (R.ext rfl rfl) ?_
  refine WL.valw (R.as (v := (int r1.1)) rfl) ?_
  refine WL.valw (R.as (v := (boo r1.2)) rfl) ?_
  refine WL.nil ?_
  refine WP.seq ?_
  refine WP.region ?_
  refine WL.valw (R.mv (v := (boo r1.2)) rfl) ?_
  refine WL.nil ?_
  rcases condE h with ⟨hc6, h⟩ | ⟨hc6, h⟩
  · refine WP.condT rfl hc6 ?_
    refine WP.seq ?_
    refine WP.region ?_
    refine WL.valw (R.mv (v := (int r1.1)) rfl) ?_
    refine WL.valw (R.as (v := (int r1.1)) rfl) ?_
    refine WL.nil ?_
    obtain rfl := Option.some.inj h
    refine WP.ret (Out.one rfl S rfl ?_)
    exact rfl
  · refine WP.condF rfl hc6 ?_
    refine WP.skip ?_
    refine WP.seq ?_
    refine WP.region ?_
    refine WL.valw (R.mv (v := (int p_received)) rfl) ?_
    refine WL.valw (R.as (v := (int p_received)) rfl) ?_
    refine WL.nil ?_
    obtain rfl := Option.some.inj h
    refine WP.ret (Out.one rfl S rfl ?_)
    exact rfl
set_option maxRecDepth 10000 in
set_option maxHeartbeats 4000000 in
theorem freshness_Age_ok {w0 : World} {H0 : Hp} (hw : Holds w0 H0) (p_l : (List GField)) (p_requested : Int) (p_received : Int) (p_now : Int) {vp_l : Value} (Rp_l : Sl (α := GField) H0 vp_l p_l) {r : Int} (h : freshness_Age p_l p_requested p_received p_now = some r) :
    Con Tryd.prog 34 [vp_l, (int p_requested), (int p_received), (int p_now)] w0 H0 (fun H' v => v = (int r)) := by
  refine Con.mk (N := 60) Tryd.func34 rfl rfl (by kernel_rfl) rfl ?_
  have S := St.start hw
  refine WP.seq ?_
  refine WP.region ?_
  refine WL.valw (R.as (v := (int 0)) rfl) ?_
  refine WL.nil ?_
  refine WP.seq ?_
  refine WP.seq ?_
  refine WP.region ?_
  refine WL.valw (R.mv (v := (int p_requested)) rfl) ?_
  refine WL.valw (R.lss rfl rfl) ?_
  refine WL.valw (R.mv (v := (boo (decide (p_requested < 0)))) rfl) ?_
  refine WL.grp 4 [18, 19, 20] 21 (boo ((decide (p_requested < 0)) || (decide (p_received < p_requested)))) ?_ ?_
  · rcases boolE (decide (p_requested < 0)) with hb1 | hb1
    · refine WL.gno rfl rfl hb1 ?_
      refine WL.gno rfl rfl hb1 ?_
      refine WL.gno rfl rfl hb1 ?_
      refine WL.valw (R.pickT rfl hb1 rfl) ?_
      exact WL.nil ⟨(orT hb1), (by repeat (first | refine agree_upd rfl ?_ | refine agree_upds' rfl ?_ | exact agree_refl)), rfl⟩
    · refine WL.gyes rfl rfl hb1 ?_
      refine WL.valw (R.mv (v := (int p_received)) rfl) ?_
      refine WL.gyes rfl rfl hb1 ?_
      refine WL.valw (R.mv (v := (int p_requested)) rfl) ?_
      refine WL.gyes rfl rfl hb1 ?_
      refine WL.valw (R.lss rfl rfl) ?_
      refine WL.valw (R.pickF rfl hb1 rfl) ?_
      exact WL.nil ⟨(orF hb1), (by repeat (first | refine agree_upd rfl ?_ | refine agree_upds' rfl ?_ | exact agree_refl)), rfl⟩
  · intro us
    refine WL.valw (R.mv (v := (boo ((decide (p_requested < 0)) || (decide (p_received < p_requested))))) rfl) ?_
    refine WL.grp 4 [23, 24, 25] 26 (boo (((decide (p_requested < 0)) || (decide (p_received < p_requested))) || (decide (p_now < p_received)))) ?_ ?_
    · rcases boolE ((decide (p_requested < 0)) || (decide (p_received < p_requested))) with hb3 | hb3
      · refine WL.gno rfl rfl hb3 ?_
        refine WL.gno rfl rfl hb3 ?_
        refine WL.gno rfl rfl hb3 ?_
        refine WL.valw (R.pickT rfl hb3 rfl) ?_
        exact WL.nil ⟨(orT hb3), (by repeat (first | refine agree_upd rfl ?_ | refine agree_upds' rfl ?_ | exact agree_refl)), rfl⟩
      · refine WL.gyes rfl rfl hb3 ?_
        refine WL.valw (R.mv (v := (int p_now)) rfl) ?_
        refine WL.gyes rfl rfl hb3 ?_
        refine WL.valw (R.mv (v := (int p_received)) rfl) ?_
        refine WL.gyes rfl rfl hb3 ?_
        refine WL.valw (R.lss rfl rfl) ?_
        refine WL.valw (R.pickF rfl hb3 rfl) ?_
        exact WL.nil ⟨(orF hb3), (by repeat (first | refine agree_upd rfl ?_ | refine agree_upds' rfl ?_ | exact agree_refl)), rfl⟩
    · intro us
      refine WL.valw (R.mv (v := (boo (((decide (p_requested < 0)) || (decide (p_received < p_requested))) || (decide (p_now < p_received))))) rfl) ?_
      refine WL.grp 3 [28, 29] 30 (boo ((((decide (p_requested < 0)) || (decide (p_received < p_requested))) || (decide (p_now < p_received))) || (decide (1099511627776 < p_now)))) ?_ ?_
      · rcases boolE (((decide (p_requested < 0)) || (decide (p_received < p_requested))) || (decide (p_now < p_received))) with hb5 | hb5
        · refine WL.gno rfl rfl hb5 ?_
          refine WL.gno rfl rfl hb5 ?_
          refine WL.valw (R.pickT rfl hb5 rfl) ?_
          exact WL.nil ⟨(orT hb5), (by repeat (first | refine agree_upd rfl ?_ | refine agree_upds' rfl ?_ | exact agree_refl)), rfl⟩
        · refine WL.gyes rfl rfl hb5 ?_
          refine WL.valw (R.mv (v := (int p_now)) rfl) ?_
          refine WL.gyes rfl rfl hb5 ?_
          refine WL.valw (R.gtr rfl rfl) ?_
          refine WL.valw (R.pickF rfl hb5 rfl) ?_
          exact WL.nil ⟨(orF hb5), (by repeat (first | refine agree_upd rfl ?_ | refine agree_upds' rfl ?_ | exact agree_refl)), rfl⟩
      · intro us
        refine WL.nil ?_
        rcases condE h with ⟨hc7, h⟩ | ⟨hc7, h⟩
        · refine WP.condT rfl hc7 ?_
          refine WP.seq ?_
          refine WP.region ?_
          refine WL.valw (R.as (v := (int 2147483647)) rfl) ?_
          refine WL.nil ?_
          obtain rfl := Option.some.inj h
          refine WP.ret (Out.one rfl S rfl ?_)
          exact rfl
        · refine WP.condF rfl hc7 ?_
          refine WP.skip ?_
          refine WP.seq ?_
          refine WP.region ?_
          refine WL.valw (R.mv (v := vp_l) rfl) ?_
          obtain ⟨r8, hr8, h⟩ := bindE h
          refine W.call S rfl (fieldline_First_ok S.holds p_l [65, 103, 101] Rp_l hr8) ?_
          rintro v9 w10 H11 hle12 S rfl
          have Rp_l := Sl.mono Rp_l hle12
          refine WL.valw (R.mv (v := (.tuple ⟨[(str r8.1), (boo r8.2)]⟩)) rfl) ?_
          refine WL.valw (R.ext rfl rfl) ?_
          refine WL.valw (R.ext rfl rfl) ?_
          refine WL.valw (R.as (v := (str r8.1)) rfl) ?_
          refine WL.valw (R.as (v := (boo r8.2)) rfl) ?_
          refine WL.nil ?_
          refine WP.seq ?_
          refine WP.region ?_
          refine WL.valw (R.mv (v := (str r8.1)) rfl) ?_
          obtain ⟨r13, hr13, h⟩ := bindE h
          refine W.call S rfl (ascii_Number_ok S.holds r8.1 hr13) ?_
          rintro v14 w15 H16 hle17 S rfl
          have Rp_l := Sl.mono Rp_l hle17
          refine WL.valw (R.mv (v := (.tuple ⟨[(int r13.1), (boo r13.2)]⟩)) rfl) ?_
          refine WL.valw (R.ext rfl rfl) ?_
          refine WL.valw (R.ext rfl rfl) ?_
          refine WL.valw (R.as (v := (int r13.1)) rfl) ?_
          refine WL.valw (R.as (v := (boo r13.2)) rfl) ?_
          refine WL.nil ?_
          refine WP.seq ?_
          refine WP.region ?_
          refine WL.valw (R.mv (v := (int p_received)) rfl) ?_
          refine WL.valw (R.mv (v := vp_l) rfl) ?_
          refine WL.valw (R.mv (v := (int p_received)) rfl) ?_
          obtain ⟨r18, hr18, h⟩ := bindE h
          refine W.call S rfl (freshness_Date_ok S.holds p_l p_received Rp_l hr18) ?_
          rintro v19 w20 H21 hle22 S rfl
          have Rp_l := Sl.mono Rp_l hle22
          refine WL.valw (R.sub rfl rfl) ?_
          refine WL.valw (R.max rfl rfl) ?_
          refine WL.valw (R.as (v := (int (if 0 < (wr (p_received - r18)) then (wr (p_received - r18)) else 0))) rfl) ?_
          refine WL.nil ?_
          refine WP.seq ?_
          refine WP.region ?_
          refine WL.valw (R.mv (v := (int r13.1)) rfl) ?_
          refine WL.valw (R.mv (v := (int p_received)) rfl) ?_
          refine WL.valw (R.add rfl rfl) ?_
          refine WL.valw (R.mv (v := (int p_requested)) rfl) ?_
          refine WL.valw (R.sub rfl rfl) ?_
          refine WL.valw (R.as (v := (int (wr ((wr (r13.1 + p_received)) - p_requested)))) rfl) ?_
          refine WL.nil ?_
          refine WP.seq ?_
          refine WP.region ?_
          refine WL.valw (R.mv (v := (int (if 0 < (wr (p_received - r18)) then (wr (p_received - r18)) else 0))) rfl) ?_
          refine WL.valw (R.mv (v := (int (wr ((wr (r13.1 + p_received)) - p_requested)))) rfl) ?_
          refine WL.valw (R.max rfl rfl) ?_
          refine WL.valw (R.mv (v := (int p_now)) rfl) ?_
          refine WL.valw (R.add rfl rfl) ?_
          refine WL.valw (R.mv (v := (int p_received)) rfl) ?_
          refine WL.valw (R.sub rfl rfl) ?_
          obtain ⟨r23, hr23, h⟩ := bindE h
          refine W.call S rfl (freshness_saturate_ok S.holds (wr ((wr ((if (if 0 < (wr (p_received - r18)) then (wr (p_received - r18)) else 0) < (wr ((wr (r13.1 + p_received)) - p_requested)) then (wr ((wr (r13.1 + p_received)) - p_requested)) else (if 0 < (wr (p_received - r18)) then (wr (p_received - r18)) else 0)) + p_now)) - p_received)) 0 hr23) ?_
          rintro v24 w25 H26 hle27 S rfl
          have Rp_l := Sl.mono Rp_l hle27
          refine WL.valw (R.as (v := (int r23)) rfl) ?_
          refine WL.nil ?_
          obtain rfl := Option.some.inj h
          refine WP.ret (Out.one rfl S rfl ?_)
          exact rfl
set_option maxRecDepth 10000 in
set_option maxHeartbeats 4000000 in
theorem law23_none_ok {w0 : World} {H0 : Hp} (hw : Holds w0 H0) {r : GControl} (h : law23_none = some r) :
    Con Tryd.prog 55 [] w0 H0 (fun H' v => v = (agg [(boo r.fNoStore), (boo r.fNoCache), (boo r.fMustRevalidate), (boo r.fProxyRevalidate), (boo r.fPrivate), (boo r.fPublic), (boo r.fOnlyIfCached), (int r.fMaxAge), (int r.fSMaxAge), (int r.fMinFresh), (int r.fMaxStale)])) := by
  refine Con.mk (N := 2) Tryd.func55 rfl rfl (by kernel_rfl) rfl ?_
  have S := St.start hw
  refine WP.seq ?_
  refine WP.region ?_
  refine W.alloc [(boo false), (boo false), (boo false), (boo false), (boo false), (boo false), (boo false), (int 0), (int 0), (int 0), (int 0)] S zer32 ?_
  intro b1 w2 S
  refine WL.nil ?_
  refine WP.seq ?_
  refine WP.region ?_
  refine WL.valw (R.build [(7, (int (-1))), (8, (int (-1))), (9, (int (-1))), (10, (int (-1)))] [(boo false), (boo false), (boo false), (boo false), (boo false), (boo false), (boo false), (int (-1)), (int (-1)), (int (-1)), (int (-1))] bp32 zer32 rfl rfl) ?_
  refine W.store (i := 0) [(boo false), (boo false), (boo false), (boo false), (boo false), (boo false), (boo false), (int (-1)), (int (-1)), (int (-1)), (int (-1))] S rfl rfl rfl lay32 rfl rfl (Nat.le_of_ble_eq_true rfl) rfl ?_
  intro w3 S
  refine WL.nil ?_
  obtain rfl := Option.some.inj h
  refine WP.ret (Out.one rfl S (Res.cellB (i := 0) (cs := [(boo false), (boo false), (boo false), (boo false), (boo false), (boo false), (boo false), (int (-1)), (int (-1)), (int (-1)), (int (-1))]) S rfl rfl lay32 rfl rfl) ?_)
  exact rfl
set_option maxRecDepth 10000 in
set_option maxHeartbeats 4000000 in
theorem freshness_Fresh_ok {w0 : World} {H0 : Hp} (hw : Holds w0 H0) (p_ppend : Int) (p_x1 : Int) (p_x2 : GControl) (p_x3 : GControl) {r : Bool} (h : freshness_Fresh p_ppend p_x1 p_x2 p_x3 = some r) :
    Con Tryd.prog 36 [(int p_ppend), (int p_x1), (agg [(boo p_x2.fNoStore), (boo p_x2.fNoCache), (boo p_x2.fMustRevalidate), (boo p_x2.fProxyRevalidate), (boo p_x2.fPrivate), (boo p_x2.fPublic), (boo p_x2.fOnlyIfCached), (int p_x2.fMaxAge), (int p_x2.fSMaxAge), (int p_x2.fMinFresh), (int p_x2.fMaxStale)]), (agg [(boo p_x3.fNoStore), (boo p_x3.fNoCache), (boo p_x3.fMustRevalidate), (boo p_x3.fProxyRevalidate), (boo p_x3.fPrivate), (boo p_x3.fPublic), (boo p_x3.fOnlyIfCached), (int p_x3.fMaxAge), (int p_x3.fSMaxAge), (int p_x3.fMinFresh), (int p_x3.fMaxStale)])] w0 H0 (fun H' v => v = (boo r)) := by
  refine Con.mk (N := 83) Tryd.func36 rfl rfl (by kernel_rfl) rfl ?_
  have S := St.start hw
  refine WP.seq ?_
  refine WP.region ?_
  refine W.box [(boo p_x2.fNoStore), (boo p_x2.fNoCache), (boo p_x2.fMustRevalidate), (boo p_x2.fProxyRevalidate), (boo p_x2.fPrivate), (boo p_x2.fPublic), (boo p_x2.fOnlyIfCached), (int p_x2.fMaxAge), (int p_x2.fSMaxAge), (int p_x2.fMinFresh), (int p_x2.fMaxStale)] S rfl rfl ?_
  intro b1 w2 S
  refine W.box [(boo p_x3.fNoStore), (boo p_x3.fNoCache), (boo p_x3.fMustRevalidate), (boo p_x3.fProxyRevalidate), (boo p_x3.fPrivate), (boo p_x3.fPublic), (boo p_x3.fOnlyIfCached), (int p_x3.fMaxAge), (int p_x3.fSMaxAge), (int p_x3.fMinFresh), (int p_x3.fMaxStale)] S rfl rfl ?_
  intro b3 w4 S
  refine WL.valw (R.as (v := (boo false)) rfl) ?_
  refine WL.nil ?_
  refine WP.seq ?_
  refine WP.block ?_
  refine WP.seq ?_
  refine WP.region ?_
  refine WL.valw (R.mv (v := (int p_ppend)) rfl) ?_
  refine WL.valw (R.lss rfl rfl) ?_
  refine WL.valw (R.mv (v := (boo (decide (p_ppend < 0)))) rfl) ?_
  refine WL.grp 3 [13, 14] 15 (boo ((decide (p_ppend < 0)) || (decide (2147483647 < p_ppend)))) ?_ ?_
  · rcases boolE (decide (p_ppend < 0)) with hb5 | hb5
    · refine WL.gno rfl rfl hb5 ?_
      refine WL.gno rfl rfl hb5 ?_
      refine WL.valw (R.pickT rfl hb5 rfl) ?_
      exact WL.nil ⟨(orT hb5), (by repeat (first | refine agree_upd rfl ?_ | refine agree_upds' rfl ?_ | exact agree_refl)), rfl⟩
    · refine WL.gyes rfl rfl hb5 ?_
      refine WL.valw (R.mv (v := (int p_ppend)) rfl) ?_
      refine WL.gyes rfl rfl hb5 ?_
      refine WL.valw (R.gtr rfl rfl) ?_
      refine WL.valw (R.pickF rfl hb5 rfl) ?_
      exact WL.nil ⟨(orF hb5), (by repeat (first | refine agree_upd rfl ?_ | refine agree_upds' rfl ?_ | exact agree_refl)), rfl⟩
  · intro us
    refine WL.valw (R.mv (v := (boo ((decide (p_ppend < 0)) || (decide (2147483647 < p_ppend))))) rfl) ?_
    refine WL.grp 3 [17, 18] 19 (boo (((decide (p_ppend < 0)) || (decide (2147483647 < p_ppend))) || (decide (p_x1 < 0)))) ?_ ?_
    · rcases boolE ((decide (p_ppend < 0)) || (decide (2147483647 < p_ppend))) with hb7 | hb7
      · refine WL.gno rfl rfl hb7 ?_
        refine WL.gno rfl rfl hb7 ?_
        refine WL.valw (R.pickT rfl hb7 rfl) ?_
        exact WL.nil ⟨(orT hb7), (by repeat (first | refine agree_upd rfl ?_ | refine agree_upds' rfl ?_ | exact agree_refl)), rfl⟩
      · refine WL.gyes rfl rfl hb7 ?_
        refine WL.valw (R.mv (v := (int p_x1)) rfl) ?_
        refine WL.gyes rfl rfl hb7 ?_
        refine WL.valw (R.lss rfl rfl) ?_
        refine WL.valw (R.pickF rfl hb7 rfl) ?_
        exact WL.nil ⟨(orF hb7), (by repeat (first | refine agree_upd rfl ?_ | refine agree_upds' rfl ?_ | exact agree_refl)), rfl⟩
    · intro us
      refine WL.valw (R.mv (v := (boo (((decide (p_ppend < 0)) || (decide (2147483647 < p_ppend))) || (decide (p_x1 < 0))))) rfl) ?_
      refine WL.grp 3 [21, 22] 23 (boo ((((decide (p_ppend < 0)) || (decide (2147483647 < p_ppend))) || (decide (p_x1 < 0))) || (decide (2147483647 < p_x1)))) ?_ ?_
      · rcases boolE (((decide (p_ppend < 0)) || (decide (2147483647 < p_ppend))) || (decide (p_x1 < 0))) with hb9 | hb9
        · refine WL.gno rfl rfl hb9 ?_
          refine WL.gno rfl rfl hb9 ?_
          refine WL.valw (R.pickT rfl hb9 rfl) ?_
          exact WL.nil ⟨(orT hb9), (by repeat (first | refine agree_upd rfl ?_ | refine agree_upds' rfl ?_ | exact agree_refl)), rfl⟩
        · refine WL.gyes rfl rfl hb9 ?_
          refine WL.valw (R.mv (v := (int p_x1)) rfl) ?_
          refine WL.gyes rfl rfl hb9 ?_
          refine WL.valw (R.gtr rfl rfl) ?_
          refine WL.valw (R.pickF rfl hb9 rfl) ?_
          exact WL.nil ⟨(orF hb9), (by repeat (first | refine agree_upd rfl ?_ | refine agree_upds' rfl ?_ | exact agree_refl)), rfl⟩
      · intro us
        refine WL.valw (R.as (v := (boo ((((decide (p_ppend < 0)) || (decide (2147483647 < p_ppend))) || (decide (p_x1 < 0))) || (decide (2147483647 < p_x1))))) rfl) ?_
        refine WL.nil ?_
        rcases condE h with ⟨hc11, h⟩ | ⟨hc11, h⟩
        · refine WP.condT rfl hc11 ?_
          refine WP.seq ?_
          refine WP.region ?_
          refine WL.valw (R.as (v := (boo false)) rfl) ?_
          refine WL.nil ?_
          obtain rfl := Option.some.inj h
          refine WP.ret (Out.one rfl S rfl ?_)
          exact rfl
        · refine WP.condF rfl hc11 ?_
          refine WP.seq ?_
          refine WP.region ?_
          refine WL.valw (R.fieldB rfl fld32_1) ?_
          refine WL.valw (R.loadB (i := 1) (v := (boo p_x2.fNoCache)) S rfl rfl lay4 rfl) ?_
          refine WL.valw (R.mv (v := (boo p_x2.fNoCache)) rfl) ?_
          refine WL.grp 3 [28, 29] 30 (boo (p_x2.fNoCache || p_x3.fNoCache)) ?_ ?_
          · rcases boolE p_x2.fNoCache with hb12 | hb12
            · refine WL.gno rfl rfl hb12 ?_
              refine WL.gno rfl rfl hb12 ?_
              refine WL.valw (R.pickT rfl hb12 rfl) ?_
              exact WL.nil ⟨(orT hb12), (by repeat (first | refine agree_upd rfl ?_ | refine agree_upds' rfl ?_ | exact agree_refl)), rfl⟩
            · refine WL.gyes rfl rfl hb12 ?_
              refine WL.valw (R.fieldB rfl fld32_1) ?_
              refine WL.gyes rfl rfl hb12 ?_
              refine WL.valw (R.loadB (i := 0) (v := (boo p_x3.fNoCache)) S rfl rfl lay4 rfl) ?_
              refine WL.valw (R.pickF rfl hb12 rfl) ?_
              exact WL.nil ⟨(orF hb12), (by repeat (first | refine agree_upd rfl ?_ | refine agree_upds' rfl ?_ | exact agree_refl)), rfl⟩
          · intro us
            refine WL.valw (R.as (v := (boo (p_x2.fNoCache || p_x3.fNoCache))) rfl) ?_
            refine WL.nil ?_
            rcases condE h with ⟨hc14, h⟩ | ⟨hc14, h⟩
            · refine WP.condT rfl hc14 ?_
              refine WP.seq ?_
              refine WP.region ?_
              refine WL.valw (R.as (v := (boo false)) rfl) ?_
              refine WL.nil ?_
              obtain rfl := Option.some.inj h
              refine WP.ret (Out.one rfl S rfl ?_)
              exact rfl
            · refine WP.condF rfl hc14 ?_
              refine WP.seq ?_
              refine WP.region ?_
              refine WL.valw (R.fieldB rfl fld32_7) ?_
              refine WL.valw (R.loadB (i := 1) (v := (int p_x2.fMaxAge)) S rfl rfl lay3 rfl) ?_
              refine WL.valw (R.neq rfl rfl) ?_
              refine WL.valw (R.mv (v := (boo (p_x2.fMaxAge != (-1)))) rfl) ?_
              refine WL.grp 5 [36, 37, 38, 39] 40 (boo ((p_x2.fMaxAge != (-1)) && (decide (p_x2.fMaxAge < p_x1)))) ?_ ?_
              · rcases boolE (p_x2.fMaxAge != (-1)) with hb15 | hb15
                · refine WL.gyes rfl rfl hb15 ?_
                  refine WL.valw (R.mv (v := (int p_x1)) rfl) ?_
                  refine WL.gyes rfl rfl hb15 ?_
                  refine WL.valw (R.fieldB rfl fld32_7) ?_
                  refine WL.gyes rfl rfl hb15 ?_
                  refine WL.valw (R.loadB (i := 1) (v := (int p_x2.fMaxAge)) S rfl rfl lay3 rfl) ?_
                  refine WL.gyes rfl rfl hb15 ?_
                  refine WL.valw (R.gtr rfl rfl) ?_
                  refine WL.valw (R.pickT rfl hb15 rfl) ?_
                  exact WL.nil ⟨(andT hb15), (by repeat (first | refine agree_upd rfl ?_ | refine agree_upds' rfl ?_ | exact agree_refl)), rfl⟩
                · refine WL.gno rfl rfl hb15 ?_
                  refine WL.gno rfl rfl hb15 ?_
                  refine WL.gno rfl rfl hb15 ?_
                  refine WL.gno rfl rfl hb15 ?_
                  refine WL.valw (R.pickF rfl hb15 rfl) ?_
                  exact WL.nil ⟨(andF hb15), (by repeat (first | refine agree_upd rfl ?_ | refine agree_upds' rfl ?_ | exact agree_refl)), rfl⟩
              · intro us
                refine WL.valw (R.as (v := (boo ((p_x2.fMaxAge != (-1)) && (decide (p_x2.fMaxAge < p_x1))))) rfl) ?_
                refine WL.nil ?_
                rcases condE h with ⟨hc17, h⟩ | ⟨hc17, h⟩
                · refine WP.condT rfl hc17 ?_
                  refine WP.seq ?_
                  refine WP.region ?_
                  refine WL.valw (R.as (v := (boo false)) rfl) ?_
                  refine WL.nil ?_
                  obtain rfl := Option.some.inj h
                  refine WP.ret (Out.one rfl S rfl ?_)
                  exact rfl
                · refine WP.condF rfl hc17 ?_
                  refine WP.seq ?_
                  refine WP.region ?_
                  refine WL.valw (R.mv (v := (int p_x1)) rfl) ?_
                  refine WL.valw (R.mv (v := (int p_ppend)) rfl) ?_
                  refine WL.valw (R.lss rfl rfl) ?_
                  refine WL.valw (R.as (v := (boo (decide (p_x1 < p_ppend)))) rfl) ?_
                  refine WL.nil ?_
                  rcases condE h with ⟨hc18, h⟩ | ⟨hc18, h⟩
                  · refine WP.condT rfl hc18 ?_
                    refine WP.seq ?_
                    refine WP.region ?_
                    refine WL.valw (R.fieldB rfl fld32_9) ?_
                    refine WL.valw (R.loadB (i := 1) (v := (int p_x2.fMinFresh)) S rfl rfl lay3 rfl) ?_
                    refine WL.valw (R.eql rfl rfl) ?_
                    refine WL.valw (R.mv (v := (boo (p_x2.fMinFresh == (-1)))) rfl) ?_
                    refine WL.grp 7 [49, 50, 51, 52, 53, 54] 55 (boo ((p_x2.fMinFresh == (-1)) || (decide (p_x2.fMinFresh ≤ (wr (p_ppend - p_x1)))))) ?_ ?_
                    · rcases boolE (p_x2.fMinFresh == (-1)) with hb19 | hb19
                      · refine WL.gno rfl rfl hb19 ?_
                        refine WL.gno rfl rfl hb19 ?_
                        refine WL.gno rfl rfl hb19 ?_
                        refine WL.gno rfl rfl hb19 ?_
                        refine WL.gno rfl rfl hb19 ?_
                        refine WL.gno rfl rfl hb19 ?_
                        refine WL.valw (R.pickT rfl hb19 rfl) ?_
                        exact WL.nil ⟨(orT hb19), (by repeat (first | refine agree_upd rfl ?_ | refine agree_upds' rfl ?_ | exact agree_refl)), rfl⟩
                      · refine WL.gyes rfl rfl hb19 ?_
                        refine WL.valw (R.mv (v := (int p_ppend)) rfl) ?_
                        refine WL.gyes rfl rfl hb19 ?_
                        refine WL.valw (R.mv (v := (int p_x1)) rfl) ?_
                        refine WL.gyes rfl rfl hb19 ?_
                        refine WL.valw (R.sub rfl rfl) ?_
                        refine WL.gyes rfl rfl hb19 ?_
                        refine WL.valw (R.fieldB rfl fld32_9) ?_
                        refine WL.gyes rfl rfl hb19 ?_
                        refine WL.valw (R.loadB (i := 1) (v := (int p_x2.fMinFresh)) S rfl rfl lay3 rfl) ?_
                        refine WL.gyes rfl rfl hb19 ?_
                        refine WL.valw (R.geq rfl rfl) ?_
                        refine WL.valw (R.pickF rfl hb19 rfl) ?_
                        exact WL.nil ⟨(orF hb19), (by repeat (first | refine agree_upd rfl ?_ | refine agree_upds' rfl ?_ | exact agree_refl)), rfl⟩
                    · intro us
                      refine WL.valw (R.as (v := (boo ((p_x2.fMinFresh == (-1)) || (decide (p_x2.fMinFresh ≤ (wr (p_ppend - p_x1))))))) rfl) ?_
                      refine WL.nil ?_
                      obtain rfl := Option.some.inj h
                      refine WP.ret (Out.one rfl S rfl ?_)
                      exact rfl
                  · refine WP.condF rfl hc18 ?_
                    refine WP.seq ?_
                    refine WP.region ?_
                    refine WL.valw (R.fieldB rfl fld32_2) ?_
                    refine WL.valw (R.loadB (i := 0) (v := (boo p_x3.fMustRevalidate)) S rfl rfl lay4 rfl) ?_
                    refine WL.valw (R.mv (v := (boo p_x3.fMustRevalidate)) rfl) ?_
                    refine WL.grp 3 [60, 61] 62 (boo (p_x3.fMustRevalidate || p_x3.fProxyRevalidate)) ?_ ?_
                    · rcases boolE p_x3.fMustRevalidate with hb21 | hb21
                      · refine WL.gno rfl rfl hb21 ?_
                        refine WL.gno rfl rfl hb21 ?_
                        refine WL.valw (R.pickT rfl hb21 rfl) ?_
                        exact WL.nil ⟨(orT hb21), (by repeat (first | refine agree_upd rfl ?_ | refine agree_upds' rfl ?_ | exact agree_refl)), rfl⟩
                      · refine WL.gyes rfl rfl hb21 ?_
                        refine WL.valw (R.fieldB rfl fld32_3) ?_
                        refine WL.gyes rfl rfl hb21 ?_
                        refine WL.valw (R.loadB (i := 0) (v := (boo p_x3.fProxyRevalidate)) S rfl rfl lay4 rfl) ?_
                        refine WL.valw (R.pickF rfl hb21 rfl) ?_
                        exact WL.nil ⟨(orF hb21), (by repeat (first | refine agree_upd rfl ?_ | refine agree_upds' rfl ?_ | exact agree_refl)), rfl⟩
                    · intro us
                      refine WL.valw (R.mv (v := (boo (p_x3.fMustRevalidate || p_x3.fProxyRevalidate))) rfl) ?_
                      refine WL.grp 4 [64, 65, 66] 67 (boo ((p_x3.fMustRevalidate || p_x3.fProxyRevalidate) || (p_x3.fSMaxAge != (-1)))) ?_ ?_
                      · rcases boolE (p_x3.fMustRevalidate || p_x3.fProxyRevalidate) with hb23 | hb23
                        · refine WL.gno rfl rfl hb23 ?_
                          refine WL.gno rfl rfl hb23 ?_
                          refine WL.gno rfl rfl hb23 ?_
                          refine WL.valw (R.pickT rfl hb23 rfl) ?_
                          exact WL.nil ⟨(orT hb23), (by repeat (first | refine agree_upd rfl ?_ | refine agree_upds' rfl ?_ | exact agree_refl)), rfl⟩
                        · refine WL.gyes rfl rfl hb23 ?_
                          refine WL.valw (R.fieldB rfl fld32_8) ?_
                          refine WL.gyes rfl rfl hb23 ?_
                          refine WL.valw (R.loadB (i := 0) (v := (int p_x3.fSMaxAge)) S rfl rfl lay3 rfl) ?_
                          refine WL.gyes rfl rfl hb23 ?_
                          refine WL.valw (R.neq rfl rfl) ?_
                          refine WL.valw (R.pickF rfl hb23 rfl) ?_
                          exact WL.nil ⟨(orF hb23), (by repeat (first | refine agree_upd rfl ?_ | refine agree_upds' rfl ?_ | exact agree_refl)), rfl⟩
                      · intro us
                        refine WL.valw (R.as (v := (boo ((p_x3.fMustRevalidate || p_x3.fProxyRevalidate) || (p_x3.fSMaxAge != (-1))))) rfl) ?_
                        refine WL.nil ?_
                        rcases condE h with ⟨hc25, h⟩ | ⟨hc25, h⟩
                        · refine WP.condT rfl hc25 ?_
                          refine WP.seq ?_
                          refine WP.region ?_
                          refine WL.valw (R.as (v := (boo false)) rfl) ?_
                          refine WL.nil ?_
                          obtain rfl := Option.some.inj h
                          refine WP.ret (Out.one rfl S rfl ?_)
                          exact rfl
                        · refine WP.condF rfl hc25 ?_
                          refine WP.seq ?_
                          refine WP.region ?_
                          refine WL.valw (R.fieldB rfl fld32_9) ?_
                          refine WL.valw (R.loadB (i := 1) (v := (int p_x2.fMinFresh)) S rfl rfl lay3 rfl) ?_
                          refine WL.valw (R.neq rfl rfl) ?_
                          refine WL.valw (R.as (v := (boo (p_x2.fMinFresh != (-1)))) rfl) ?_
                          refine WL.nil ?_
                          rcases condE h with ⟨hc26, h⟩ | ⟨hc26, h⟩
                          · refine WP.condT rfl hc26 ?_
                            refine WP.seq ?_
                            refine WP.region ?_
                            refine WL.valw (R.as (v := (boo false)) rfl) ?_
                            refine WL.nil ?_
                            obtain rfl := Option.some.inj h
                            refine WP.ret (Out.one rfl S rfl ?_)
                            exact rfl
                          · refine WP.condF rfl hc26 ?_
                            refine WP.skip ?_
                            refine WP.seq ?_
                            refine WP.region ?_
                            refine WL.valw (R.fieldB rfl fld32_10) ?_
                            refine WL.valw (R.loadB (i := 1) (v := (int p_x2.fMaxStale)) S rfl rfl lay3 rfl) ?_
                            refine WL.valw (R.neq rfl rfl) ?_
                            refine WL.valw (R.mv (v := (boo (p_x2.fMaxStale != (-1)))) rfl) ?_
                            refine WL.grp 7 [76, 77, 78, 79, 80, 81] 82 (boo ((p_x2.fMaxStale != (-1)) && (decide ((wr (p_x1 - p_ppend)) ≤ p_x2.fMaxStale)))) ?_ ?_
                            · rcases boolE (p_x2.fMaxStale != (-1)) with hb27 | hb27
                              · refine WL.gyes rfl rfl hb27 ?_
                                refine WL.valw (R.mv (v := (int p_x1)) rfl) ?_
                                refine WL.gyes rfl rfl hb27 ?_
                                refine WL.valw (R.mv (v := (int p_ppend)) rfl) ?_
                                refine WL.gyes rfl rfl hb27 ?_
                                refine WL.valw (R.sub rfl rfl) ?_
                                refine WL.gyes rfl rfl hb27 ?_
                                refine WL.valw (R.fieldB rfl fld32_10) ?_
                                refine WL.gyes rfl rfl hb27 ?_
                                refine WL.valw (R.loadB (i := 1) (v := (int p_x2.fMaxStale)) S rfl rfl lay3 rfl) ?_
                                refine WL.gyes rfl rfl hb27 ?_
                                refine WL.valw (R.leq rfl rfl) ?_
                                refine WL.valw (R.pickT rfl hb27 rfl) ?_
                                exact WL.nil ⟨(andT hb27), (by repeat (first | refine agree_upd rfl ?_ | refine agree_upds' rfl ?_ | exact agree_refl)), rfl⟩
                              · refine WL.gno rfl rfl hb27 ?_
                                refine WL.gno rfl rfl hb27 ?_
                                refine WL.gno rfl rfl hb27 ?_
                                refine WL.gno rfl rfl hb27 ?_
                                refine WL.gno rfl rfl hb27 ?_
                                refine WL.gno rfl rfl hb27 ?_
                                refine WL.valw (R.pickF rfl hb27 rfl) ?_
                                exact WL.nil ⟨(andF hb27), (by repeat (first | refine agree_upd rfl ?_ | refine agree_upds' rfl ?_ | exact agree_refl)), rfl⟩
                            · intro us
                              refine WL.valw (R.as (v := (boo ((p_x2.fMaxStale != (-1)) && (decide ((wr (p_x1 - p_ppend)) ≤ p_x2.fMaxStale))))) rfl) ?_
                              refine WL.nil ?_
                              obtain rfl := Option.some.inj h
                              refine WP.ret (Out.one rfl S rfl ?_)
                              exact rfl
set_option maxRecDepth 10000 in
set_option maxHeartbeats 4000000 in
theorem law23_awake_ok {w0 : World} {H0 : Hp} (hw : Holds w0 H0) {r : Bool} (h : law23_awake = some r) :
    Con Tryd.prog 33 [] w0 H0 (fun H' v => v = (boo r)) := by
  refine Con.mk (N := 24) Tryd.func33 rfl rfl (by kernel_rfl) rfl ?_
  have S := St.start hw
  refine WP.seq ?_
  refine WP.region ?_
  refine WL.valw (R.as (v := (boo false)) rfl) ?_
  refine WL.nil ?_
  refine WP.seq ?_
  refine WP.region ?_
  refine WL.valw (R.build [(0, (str [67, 97, 99, 104, 101, 45, 67, 111, 110, 116, 114, 111, 108])), (1, (str [109, 97, 120, 45, 97, 103, 101, 61, 54, 48]))] [(str [67, 97, 99, 104, 101, 45, 67, 111, 110, 116, 114, 111, 108]), (str [109, 97, 120, 45, 97, 103, 101, 61, 54, 48])] bp26 zer26 rfl rfl) ?_
  refine WL.valw (R.build [(0, (str [65, 103, 101])), (1, (str [49, 48]))] [(str [65, 103, 101]), (str [49, 48])] bp26 zer26 rfl rfl) ?_
  refine W.bslice (α := GField) [(agg [(str [67, 97, 99, 104, 101, 45, 67, 111, 110, 116, 114, 111, 108]), (str [109, 97, 120, 45, 97, 103, 101, 61, 54, 48])]), (agg [(str [65, 103, 101]), (str [49, 48])])] ([(⟨[67, 97, 99, 104, 101, 45, 67, 111, 110, 116, 114, 111, 108], [109, 97, 120, 45, 97, 103, 101, 61, 54, 48]⟩ : GField), (⟨[65, 103, 101], [49, 48]⟩ : GField)] : List GField) S el27 rfl rfl rfl (by decide) (encS ⟨rfl, rfl⟩ (encS ⟨rfl, rfl⟩ enc0)) ?_
  intro u1 w2 H3 hle4 R5 S
  refine WL.valw (R.as (v := u1) rfl) ?_
  refine WL.nil ?_
  refine WP.seq ?_
  refine WP.region ?_
  refine WL.valw (R.mv (v := u1) rfl) ?_
  obtain ⟨r6, hr6, h⟩ := bindE h
  refine W.call S rfl (freshness_Lifetime_ok S.holds ([(⟨[67, 97, 99, 104, 101, 45, 67, 111, 110, 116, 114, 111, 108], [109, 97, 120, 45, 97, 103, 101, 61, 54, 48]⟩ : GField), (⟨[65, 103, 101], [49, 48]⟩ : GField)] : List GField) R5 hr6) ?_
  rintro v7 w8 H9 hle10 S rfl
  have R5 := Sl.mono R5 hle10
  refine WL.valw (R.eql rfl rfl) ?_
  refine WL.valw (R.mv (v := (boo (r6 == 60))) rfl) ?_
  obtain ⟨b18, hg12, h⟩ := bindE h
  refine WL.grpw 4 [9, 10, 11] 12 (boo b18) (fun w => ∃ H' : Hp, H9.le H' ∧ St w0 H0 w H' [.row u1 26 2 ([(⟨[67, 97, 99, 104, 101, 45, 67, 111, 110, 116, 114, 111, 108], [109, 97, 120, 45, 97, 103, 101, 61, 54, 48]⟩ : GField), (⟨[65, 103, 101], [49, 48]⟩ : GField)] : List GField).length]) ?_ ?_
  · rcases boolE (r6 == 60) with hb11 | hb11
    · replace hg12 := condT hg12 hb11
      refine WL.gyes rfl rfl hb11 ?_
      refine WL.valw (R.mv (v := u1) rfl) ?_
      refine WL.gyes rfl rfl hb11 ?_
      obtain ⟨r13, hr13, hg12⟩ := bindE hg12
      refine W.call S rfl (freshness_Age_ok S.holds ([(⟨[67, 97, 99, 104, 101, 45, 67, 111, 110, 116, 114, 111, 108], [109, 97, 120, 45, 97, 103, 101, 61, 54, 48]⟩ : GField), (⟨[65, 103, 101], [49, 48]⟩ : GField)] : List GField) 5 7 10 R5 hr13) ?_
      rintro v14 w15 H16 hle17 S rfl
      have R5 := Sl.mono R5 hle17
      refine WL.gyes rfl rfl hb11 ?_
      refine WL.valw (R.eql rfl rfl) ?_
      refine WL.valw (R.pickT rfl hb11 rfl) ?_
      exact WL.nil ⟨(congrArg boo (Option.some.inj hg12)), (by repeat (first | refine agree_upd rfl ?_ | refine agree_upds' rfl ?_ | exact agree_refl)), ⟨H16, hle17, S⟩⟩
    · replace hg12 := condF hg12 hb11
      refine WL.gno rfl rfl hb11 ?_
      refine WL.gno rfl rfl hb11 ?_
      refine WL.gno rfl rfl hb11 ?_
      refine WL.valw (R.pickF rfl hb11 rfl) ?_
      exact WL.nil ⟨(congrArg boo (Option.some.inj hg12)), (by repeat (first | refine agree_upd rfl ?_ | refine agree_upds' rfl ?_ | exact agree_refl)), ⟨H9, (Hp.le.refl _), S⟩⟩
  · intro us w20 ⟨H19, hle21, S⟩
    have R5 := Sl.mono R5 hle21
    refine WL.valw (R.mv (v := (boo b18)) rfl) ?_
    obtain ⟨b39, hg23, h⟩ := bindE h
    refine WL.grpw 4 [14, 15, 16] 17 (boo b39) (fun w => ∃ H' : Hp, H19.le H' ∧ St w0 H0 w H' [.row u1 26 2 ([(⟨[67, 97, 99, 104, 101, 45, 67, 111, 110, 116, 114, 111, 108], [109, 97, 120, 45, 97, 103, 101, 61, 54, 48]⟩ : GField), (⟨[65, 103, 101], [49, 48]⟩ : GField)] : List GField).length]) ?_ ?_
    · rcases boolE b18 with hb22 | hb22
      · replace hg23 := condT hg23 hb22
        refine WL.gyes rfl rfl hb22 ?_
        obtain ⟨r24, hr24, hg23⟩ := bindE hg23
        refine W.call S rfl (law23_none_ok S.holds  hr24) ?_
        rintro v25 w26 H27 hle28 S rfl
        have R5 := Sl.mono R5 hle28
        refine WL.gyes rfl rfl hb22 ?_
        obtain ⟨r29, hr29, hg23⟩ := bindE hg23
        refine W.call S rfl (law23_none_ok S.holds  hr29) ?_
        rintro v30 w31 H32 hle33 S rfl
        have R5 := Sl.mono R5 hle33
        refine WL.gyes rfl rfl hb22 ?_
        obtain ⟨r34, hr34, hg23⟩ := bindE hg23
        refine W.call S rfl (freshness_Fresh_ok S.holds 60 59 r24 r29 hr34) ?_
        rintro v35 w36 H37 hle38 S rfl
        have R5 := Sl.mono R5 hle38
        refine WL.valw (R.pickT rfl hb22 rfl) ?_
        exact WL.nil ⟨(congrArg boo (Option.some.inj hg23)), (by repeat (first | refine agree_upd rfl ?_ | refine agree_upds' rfl ?_ | exact agree_refl)), ⟨H37, ((hle28.trans hle33).trans hle38), S⟩⟩
      · replace hg23 := condF hg23 hb22
        refine WL.gno rfl rfl hb22 ?_
        refine WL.gno rfl rfl hb22 ?_
        refine WL.gno rfl rfl hb22 ?_
        refine WL.valw (R.pickF rfl hb22 rfl) ?_
        exact WL.nil ⟨(congrArg boo (Option.some.inj hg23)), (by repeat (first | refine agree_upd rfl ?_ | refine agree_upds' rfl ?_ | exact agree_refl)), ⟨H19, (Hp.le.refl _), S⟩⟩
    · intro us w41 ⟨H40, hle42, S⟩
      have R5 := Sl.mono R5 hle42
      refine WL.valw (R.mv (v := (boo b39)) rfl) ?_
      obtain ⟨b60, hg44, h⟩ := bindE h
      refine WL.grpw 5 [19, 20, 21, 22] 23 (boo b60) (fun w => ∃ H' : Hp, H40.le H' ∧ St w0 H0 w H' [.row u1 26 2 ([(⟨[67, 97, 99, 104, 101, 45, 67, 111, 110, 116, 114, 111, 108], [109, 97, 120, 45, 97, 103, 101, 61, 54, 48]⟩ : GField), (⟨[65, 103, 101], [49, 48]⟩ : GField)] : List GField).length]) ?_ ?_
      · rcases boolE b39 with hb43 | hb43
        · replace hg44 := condT hg44 hb43
          refine WL.gyes rfl rfl hb43 ?_
          obtain ⟨r45, hr45, hg44⟩ := bindE hg44
          refine W.call S rfl (law23_none_ok S.holds  hr45) ?_
          rintro v46 w47 H48 hle49 S rfl
          have R5 := Sl.mono R5 hle49
          refine WL.gyes rfl rfl hb43 ?_
          obtain ⟨r50, hr50, hg44⟩ := bindE hg44
          refine W.call S rfl (law23_none_ok S.holds  hr50) ?_
          rintro v51 w52 H53 hle54 S rfl
          have R5 := Sl.mono R5 hle54
          refine WL.gyes rfl rfl hb43 ?_
          obtain ⟨r55, hr55, hg44⟩ := bindE hg44
          refine W.call S rfl (freshness_Fresh_ok S.holds 60 60 r45 r50 hr55) ?_
          rintro v56 w57 H58 hle59 S rfl
          have R5 := Sl.mono R5 hle59
          refine WL.gyes rfl rfl hb43 ?_
          refine WL.valw (R.not rfl) ?_
          refine WL.valw (R.pickT rfl hb43 rfl) ?_
          exact WL.nil ⟨(congrArg boo (Option.some.inj hg44)), (by repeat (first | refine agree_upd rfl ?_ | refine agree_upds' rfl ?_ | exact agree_refl)), ⟨H58, ((hle49.trans hle54).trans hle59), S⟩⟩
        · replace hg44 := condF hg44 hb43
          refine WL.gno rfl rfl hb43 ?_
          refine WL.gno rfl rfl hb43 ?_
          refine WL.gno rfl rfl hb43 ?_
          refine WL.gno rfl rfl hb43 ?_
          refine WL.valw (R.pickF rfl hb43 rfl) ?_
          exact WL.nil ⟨(congrArg boo (Option.some.inj hg44)), (by repeat (first | refine agree_upd rfl ?_ | refine agree_upds' rfl ?_ | exact agree_refl)), ⟨H40, (Hp.le.refl _), S⟩⟩
      · intro us w62 ⟨H61, hle63, S⟩
        have R5 := Sl.mono R5 hle63
        refine WL.valw (R.as (v := (boo b60)) rfl) ?_
        refine WL.nil ?_
        obtain rfl := Option.some.inj h
        refine WP.ret (Out.one rfl S rfl ?_)
        exact rfl
end Go.Proofs
