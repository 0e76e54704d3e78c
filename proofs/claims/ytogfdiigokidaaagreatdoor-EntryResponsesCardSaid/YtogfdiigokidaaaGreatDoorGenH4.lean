/- A part of the proof of laws of the seat: written by program over the translation. -/
import Derived.Test.YtogfdiigokidaaaGreatDoorGenH3
namespace Go.Proofs
open Go.Eng Go.Eng.Pure
set_option linter.unusedVariables false
set_option maxRecDepth 10000 in
set_option maxHeartbeats 4000000 in
theorem ref19_ParseDate_ok {w0 : World} {H0 : Hp} (hw : Holds w0 H0) (hG : Tryz.Gl w0) (p_ppend : Str) {r : (Int × Bool)} (h : ref19_ParseDate p_ppend = some r) :
    Con Tryz.prog 197 [(str p_ppend)] w0 H0 (fun H' v => v = (.tuple ⟨[(int r.1), (boo r.2)]⟩)) := by
  refine Con.mk (N := 156) Tryz.func197 rfl rfl (by kernel_rfl) rfl ?_
  have S := St.start hw
  refine WP.seq ?_
  refine WP.region ?_
  refine WL.valw (R.as (v := (int 0)) rfl) ?_
  refine WL.valw (R.as (v := (boo false)) rfl) ?_
  refine WL.nil ?_
  refine WP.seq ?_
  refine WP.seq ?_
  refine WP.region ?_
  refine WL.valw (R.mv (v := (str p_ppend)) rfl) ?_
  refine WL.valw (R.lenS (a := p_ppend) rfl Tryz.underlying9) ?_
  refine WL.valw (R.neq rfl rfl) ?_
  refine WL.valw (R.mv (v := (boo ((p_ppend.length : Int) != 29))) rfl) ?_
  obtain ⟨b4, hg2, h⟩ := bindE h
  refine WL.grp 4 [21, 22, 23] 24 (boo b4) ?_ ?_
  · rcases boolE ((p_ppend.length : Int) != 29) with hb1 | hb1
    · replace hg2 := condT hg2 hb1
      refine WL.gno rfl rfl hb1 ?_
      refine WL.gno rfl rfl hb1 ?_
      refine WL.gno rfl rfl hb1 ?_
      refine WL.valw (R.pickT rfl hb1 rfl) ?_
      exact WL.nil ⟨(congrArg boo (Option.some.inj hg2)), (by repeat (first | refine agree_upd rfl ?_ | refine agree_upds' rfl ?_ | exact agree_refl)), rfl⟩
    · replace hg2 := condF hg2 hb1
      refine WL.gyes rfl rfl hb1 ?_
      refine WL.valw (R.mv (v := (str p_ppend)) rfl) ?_
      refine WL.gyes rfl rfl hb1 ?_
      obtain ⟨s3, hs3, hg2⟩ := bindE hg2
      refine WL.valw (R.subS rfl rfl rfl Tryz.underlying9 hs3) ?_
      refine WL.gyes rfl rfl hb1 ?_
      refine WL.valw (R.neqS (a := s3) (b := [44, 32]) rfl rfl) ?_
      refine WL.valw (R.pickF rfl hb1 rfl) ?_
      exact WL.nil ⟨(congrArg boo (Option.some.inj hg2)), (by repeat (first | refine agree_upd rfl ?_ | refine agree_upds' rfl ?_ | exact agree_refl)), rfl⟩
  · intro us
    refine WL.valw (R.mv (v := (boo b4)) rfl) ?_
    obtain ⟨b8, hg6, h⟩ := bindE h
    refine WL.grp 4 [26, 27, 28] 29 (boo b8) ?_ ?_
    · rcases boolE b4 with hb5 | hb5
      · replace hg6 := condT hg6 hb5
        refine WL.gno rfl rfl hb5 ?_
        refine WL.gno rfl rfl hb5 ?_
        refine WL.gno rfl rfl hb5 ?_
        refine WL.valw (R.pickT rfl hb5 rfl) ?_
        exact WL.nil ⟨(congrArg boo (Option.some.inj hg6)), (by repeat (first | refine agree_upd rfl ?_ | refine agree_upds' rfl ?_ | exact agree_refl)), rfl⟩
      · replace hg6 := condF hg6 hb5
        refine WL.gyes rfl rfl hb5 ?_
        refine WL.valw (R.mv (v := (str p_ppend)) rfl) ?_
        refine WL.gyes rfl rfl hb5 ?_
        obtain ⟨c7, hc7, hg6⟩ := bindE hg6
        refine WL.valw (R.idxS rfl rfl Tryz.underlying9 hc7) ?_
        refine WL.gyes rfl rfl hb5 ?_
        refine WL.valw (R.neq8 (a := c7) (b := 32) rfl rfl) ?_
        refine WL.valw (R.pickF rfl hb5 rfl) ?_
        exact WL.nil ⟨(congrArg boo (Option.some.inj hg6)), (by repeat (first | refine agree_upd rfl ?_ | refine agree_upds' rfl ?_ | exact agree_refl)), rfl⟩
    · intro us
      refine WL.valw (R.mv (v := (boo b8)) rfl) ?_
      obtain ⟨b12, hg10, h⟩ := bindE h
      refine WL.grp 4 [31, 32, 33] 34 (boo b12) ?_ ?_
      · rcases boolE b8 with hb9 | hb9
        · replace hg10 := condT hg10 hb9
          refine WL.gno rfl rfl hb9 ?_
          refine WL.gno rfl rfl hb9 ?_
          refine WL.gno rfl rfl hb9 ?_
          refine WL.valw (R.pickT rfl hb9 rfl) ?_
          exact WL.nil ⟨(congrArg boo (Option.some.inj hg10)), (by repeat (first | refine agree_upd rfl ?_ | refine agree_upds' rfl ?_ | exact agree_refl)), rfl⟩
        · replace hg10 := condF hg10 hb9
          refine WL.gyes rfl rfl hb9 ?_
          refine WL.valw (R.mv (v := (str p_ppend)) rfl) ?_
          refine WL.gyes rfl rfl hb9 ?_
          obtain ⟨c11, hc11, hg10⟩ := bindE hg10
          refine WL.valw (R.idxS rfl rfl Tryz.underlying9 hc11) ?_
          refine WL.gyes rfl rfl hb9 ?_
          refine WL.valw (R.neq8 (a := c11) (b := 32) rfl rfl) ?_
          refine WL.valw (R.pickF rfl hb9 rfl) ?_
          exact WL.nil ⟨(congrArg boo (Option.some.inj hg10)), (by repeat (first | refine agree_upd rfl ?_ | refine agree_upds' rfl ?_ | exact agree_refl)), rfl⟩
      · intro us
        refine WL.valw (R.mv (v := (boo b12)) rfl) ?_
        obtain ⟨b16, hg14, h⟩ := bindE h
        refine WL.grp 4 [36, 37, 38] 39 (boo b16) ?_ ?_
        · rcases boolE b12 with hb13 | hb13
          · replace hg14 := condT hg14 hb13
            refine WL.gno rfl rfl hb13 ?_
            refine WL.gno rfl rfl hb13 ?_
            refine WL.gno rfl rfl hb13 ?_
            refine WL.valw (R.pickT rfl hb13 rfl) ?_
            exact WL.nil ⟨(congrArg boo (Option.some.inj hg14)), (by repeat (first | refine agree_upd rfl ?_ | refine agree_upds' rfl ?_ | exact agree_refl)), rfl⟩
          · replace hg14 := condF hg14 hb13
            refine WL.gyes rfl rfl hb13 ?_
            refine WL.valw (R.mv (v := (str p_ppend)) rfl) ?_
            refine WL.gyes rfl rfl hb13 ?_
            obtain ⟨c15, hc15, hg14⟩ := bindE hg14
            refine WL.valw (R.idxS rfl rfl Tryz.underlying9 hc15) ?_
            refine WL.gyes rfl rfl hb13 ?_
            refine WL.valw (R.neq8 (a := c15) (b := 32) rfl rfl) ?_
            refine WL.valw (R.pickF rfl hb13 rfl) ?_
            exact WL.nil ⟨(congrArg boo (Option.some.inj hg14)), (by repeat (first | refine agree_upd rfl ?_ | refine agree_upds' rfl ?_ | exact agree_refl)), rfl⟩
        · intro us
          refine WL.valw (R.mv (v := (boo b16)) rfl) ?_
          obtain ⟨b20, hg18, h⟩ := bindE h
          refine WL.grp 4 [41, 42, 43] 44 (boo b20) ?_ ?_
          · rcases boolE b16 with hb17 | hb17
            · replace hg18 := condT hg18 hb17
              refine WL.gno rfl rfl hb17 ?_
              refine WL.gno rfl rfl hb17 ?_
              refine WL.gno rfl rfl hb17 ?_
              refine WL.valw (R.pickT rfl hb17 rfl) ?_
              exact WL.nil ⟨(congrArg boo (Option.some.inj hg18)), (by repeat (first | refine agree_upd rfl ?_ | refine agree_upds' rfl ?_ | exact agree_refl)), rfl⟩
            · replace hg18 := condF hg18 hb17
              refine WL.gyes rfl rfl hb17 ?_
              refine WL.valw (R.mv (v := (str p_ppend)) rfl) ?_
              refine WL.gyes rfl rfl hb17 ?_
              obtain ⟨c19, hc19, hg18⟩ := bindE hg18
              refine WL.valw (R.idxS rfl rfl Tryz.underlying9 hc19) ?_
              refine WL.gyes rfl rfl hb17 ?_
              refine WL.valw (R.neq8 (a := c19) (b := 58) rfl rfl) ?_
              refine WL.valw (R.pickF rfl hb17 rfl) ?_
              exact WL.nil ⟨(congrArg boo (Option.some.inj hg18)), (by repeat (first | refine agree_upd rfl ?_ | refine agree_upds' rfl ?_ | exact agree_refl)), rfl⟩
          · intro us
            refine WL.valw (R.mv (v := (boo b20)) rfl) ?_
            obtain ⟨b24, hg22, h⟩ := bindE h
            refine WL.grp 4 [46, 47, 48] 49 (boo b24) ?_ ?_
            · rcases boolE b20 with hb21 | hb21
              · replace hg22 := condT hg22 hb21
                refine WL.gno rfl rfl hb21 ?_
                refine WL.gno rfl rfl hb21 ?_
                refine WL.gno rfl rfl hb21 ?_
                refine WL.valw (R.pickT rfl hb21 rfl) ?_
                exact WL.nil ⟨(congrArg boo (Option.some.inj hg22)), (by repeat (first | refine agree_upd rfl ?_ | refine agree_upds' rfl ?_ | exact agree_refl)), rfl⟩
              · replace hg22 := condF hg22 hb21
                refine WL.gyes rfl rfl hb21 ?_
                refine WL.valw (R.mv (v := (str p_ppend)) rfl) ?_
                refine WL.gyes rfl rfl hb21 ?_
                obtain ⟨c23, hc23, hg22⟩ := bindE hg22
                refine WL.valw (R.idxS rfl rfl Tryz.underlying9 hc23) ?_
                refine WL.gyes rfl rfl hb21 ?_
                refine WL.valw (R.neq8 (a := c23) (b := 58) rfl rfl) ?_
                refine WL.valw (R.pickF rfl hb21 rfl) ?_
                exact WL.nil ⟨(congrArg boo (Option.some.inj hg22)), (by repeat (first | refine agree_upd rfl ?_ | refine agree_upds' rfl ?_ | exact agree_refl)), rfl⟩
            · intro us
              refine WL.valw (R.mv (v := (boo b24)) rfl) ?_
              obtain ⟨b28, hg26, h⟩ := bindE h
              refine WL.grp 4 [51, 52, 53] 54 (boo b28) ?_ ?_
              · rcases boolE b24 with hb25 | hb25
                · replace hg26 := condT hg26 hb25
                  refine WL.gno rfl rfl hb25 ?_
                  refine WL.gno rfl rfl hb25 ?_
                  refine WL.gno rfl rfl hb25 ?_
                  refine WL.valw (R.pickT rfl hb25 rfl) ?_
                  exact WL.nil ⟨(congrArg boo (Option.some.inj hg26)), (by repeat (first | refine agree_upd rfl ?_ | refine agree_upds' rfl ?_ | exact agree_refl)), rfl⟩
                · replace hg26 := condF hg26 hb25
                  refine WL.gyes rfl rfl hb25 ?_
                  refine WL.valw (R.mv (v := (str p_ppend)) rfl) ?_
                  refine WL.gyes rfl rfl hb25 ?_
                  obtain ⟨s27, hs27, hg26⟩ := bindE hg26
                  refine WL.valw (R.subSlo rfl rfl Tryz.underlying9 hs27) ?_
                  refine WL.gyes rfl rfl hb25 ?_
                  refine WL.valw (R.neqS (a := s27) (b := [32, 71, 77, 84]) rfl rfl) ?_
                  refine WL.valw (R.pickF rfl hb25 rfl) ?_
                  exact WL.nil ⟨(congrArg boo (Option.some.inj hg26)), (by repeat (first | refine agree_upd rfl ?_ | refine agree_upds' rfl ?_ | exact agree_refl)), rfl⟩
              · intro us
                refine WL.nil ?_
                rcases condE h with ⟨hc29, h⟩ | ⟨hc29, h⟩
                · refine WP.condT rfl hc29 ?_
                  refine WP.seq ?_
                  refine WP.region ?_
                  refine WL.valw (R.as (v := (int 0)) rfl) ?_
                  refine WL.valw (R.as (v := (boo false)) rfl) ?_
                  refine WL.nil ?_
                  obtain rfl := Option.some.inj h
                  refine WP.ret (Out.two rfl S rfl rfl ?_)
                  exact rfl
                · refine WP.condF rfl hc29 ?_
                  refine WP.skip ?_
                  refine WP.seq ?_
                  refine WP.region ?_
                  refine WL.valw (R.mv (v := (str p_ppend)) rfl) ?_
                  obtain ⟨r30, hr30, h⟩ := bindE h
                  refine W.call S rfl (ref19_digits_ok S.holds (hG.post S.post) p_ppend 5 2 hr30) ?_
                  rintro v31 w32 H33 hle34 S rfl
                  refine WL.valw (R.mv (v := (.tuple ⟨[(int r30.1), (boo r30.2)]⟩)) rfl) ?_
                  refine WL.valw (R.ext rfl rfl) ?_
                  refine WL.valw (R.ext rfl rfl) ?_
                  refine WL.valw (R.as (v := (int r30.1)) rfl) ?_
                  refine WL.valw (R.as (v := (boo r30.2)) rfl) ?_
                  refine WL.nil ?_
                  refine WP.seq ?_
                  refine WP.region ?_
                  refine WL.valw (R.mv (v := (str p_ppend)) rfl) ?_
                  obtain ⟨r35, hr35, h⟩ := bindE h
                  refine W.call S rfl (ref19_digits_ok S.holds (hG.post S.post) p_ppend 12 4 hr35) ?_
                  rintro v36 w37 H38 hle39 S rfl
                  refine WL.valw (R.mv (v := (.tuple ⟨[(int r35.1), (boo r35.2)]⟩)) rfl) ?_
                  refine WL.valw (R.ext rfl rfl) ?_
                  refine WL.valw (R.ext rfl rfl) ?_
                  refine WL.valw (R.as (v := (int r35.1)) rfl) ?_
                  refine WL.valw (R.as (v := (boo r35.2)) rfl) ?_
                  refine WL.nil ?_
                  refine WP.seq ?_
                  refine WP.region ?_
                  refine WL.valw (R.mv (v := (str p_ppend)) rfl) ?_
                  obtain ⟨r40, hr40, h⟩ := bindE h
                  refine W.call S rfl (ref19_digits_ok S.holds (hG.post S.post) p_ppend 17 2 hr40) ?_
                  rintro v41 w42 H43 hle44 S rfl
                  refine WL.valw (R.mv (v := (.tuple ⟨[(int r40.1), (boo r40.2)]⟩)) rfl) ?_
                  refine WL.valw (R.ext rfl rfl) ?_
                  refine WL.valw (R.ext rfl rfl) ?_
                  refine WL.valw (R.as (v := (int r40.1)) rfl) ?_
                  refine WL.valw (R.as (v := (boo r40.2)) rfl) ?_
                  refine WL.nil ?_
                  refine WP.seq ?_
                  refine WP.region ?_
                  refine WL.valw (R.mv (v := (str p_ppend)) rfl) ?_
                  obtain ⟨r45, hr45, h⟩ := bindE h
                  refine W.call S rfl (ref19_digits_ok S.holds (hG.post S.post) p_ppend 20 2 hr45) ?_
                  rintro v46 w47 H48 hle49 S rfl
                  refine WL.valw (R.mv (v := (.tuple ⟨[(int r45.1), (boo r45.2)]⟩)) rfl) ?_
                  refine WL.valw (R.ext rfl rfl) ?_
                  refine WL.valw (R.ext rfl rfl) ?_
                  refine WL.valw (R.as (v := (int r45.1)) rfl) ?_
                  refine WL.valw (R.as (v := (boo r45.2)) rfl) ?_
                  refine WL.nil ?_
                  refine WP.seq ?_
                  refine WP.region ?_
                  refine WL.valw (R.mv (v := (str p_ppend)) rfl) ?_
                  obtain ⟨r50, hr50, h⟩ := bindE h
                  refine W.call S rfl (ref19_digits_ok S.holds (hG.post S.post) p_ppend 23 2 hr50) ?_
                  rintro v51 w52 H53 hle54 S rfl
                  refine WL.valw (R.mv (v := (.tuple ⟨[(int r50.1), (boo r50.2)]⟩)) rfl) ?_
                  refine WL.valw (R.ext rfl rfl) ?_
                  refine WL.valw (R.ext rfl rfl) ?_
                  refine WL.valw (R.as (v := (int r50.1)) rfl) ?_
                  refine WL.valw (R.as (v := (boo r50.2)) rfl) ?_
                  refine WL.nil ?_
                  refine WP.seq ?_
                  refine WP.region ?_
                  refine WL.valw (R.as (v := (int 0)) rfl) ?_
                  refine WL.nil ?_
                  refine WP.seq ?_
                  refine WP.seq ?_
                  refine WP.region ?_
                  refine WL.valw (R.as (v := (int 0)) rfl) ?_
                  refine WL.nil ?_
                  obtain ⟨y_83, hr89, h⟩ := bindE h
                  refine WP.cut (fun f w => ∃ (H71 : Hp), f 0 = (str p_ppend) ∧ f 4 = (int r30.1) ∧ f 5 = (boo r30.2) ∧ f 6 = (int r35.1) ∧ f 7 = (boo r35.2) ∧ f 8 = (int r40.1) ∧ f 9 = (boo r40.2) ∧ f 10 = (int r45.1) ∧ f 11 = (boo r45.2) ∧ f 12 = (int r50.1) ∧ f 13 = (boo r50.2) ∧ f 14 = (int y_83) ∧ St w0 H0 w H71 []) ?_ ?_
                  · refine WP.block ?_
                    refine WP.loopM (ref19_ParseDate_L0 p_ppend) (fun s f w => match s with | (y_67, y_69) => ∃ (H55 : Hp), f 0 = (str p_ppend) ∧ f 4 = (int r30.1) ∧ f 5 = (boo r30.2) ∧ f 6 = (int r35.1) ∧ f 7 = (boo r35.2) ∧ f 8 = (int r40.1) ∧ f 9 = (boo r40.2) ∧ f 10 = (int r45.1) ∧ f 11 = (boo r45.2) ∧ f 12 = (int r50.1) ∧ f 13 = (boo r50.2) ∧ f 14 = (int y_67) ∧ f 15 = (int y_69) ∧ St w0 H0 w H55 []) (0, 0) y_83 hr89 ?_ ?_
                    · exact ⟨H53, rfl, rfl, rfl, rfl, rfl, rfl, rfl, rfl, rfl, rfl, rfl, rfl, rfl, S⟩
                    · intro s f w hI y85 hy86 hy87
                      obtain ⟨y_67, y_69⟩ := s
                      obtain ⟨H55, h56, h57, h58, h59, h60, h61, h62, h63, h64, h65, h66, h68, h70, S⟩ := hI
                      refine WP.seq ?_
                      refine WP.seq ?_
                      refine WP.region ?_
                      refine WL.valw (R.mv (v := (int y_69)) h70) ?_
                      refine WL.valw (R.lss rfl rfl) ?_
                      refine WL.nil ?_
                      rcases condE hy86 with ⟨hc90, hy86⟩ | ⟨hc90, hy86⟩
                      · refine WP.condT rfl hc90 ?_
                        refine WP.skip ?_
                        refine WP.seq ?_
                        refine WP.block ?_
                        refine WP.seq ?_
                        refine WP.quiet S (by kernel_rfl) (by kernel_rfl) ?_
                        refine WQ.val (fun _ _ => (R.mv (v := (int y_69)) h70)) ?_
                        refine WQ.val (fun _ _ => (R.mul rfl rfl)) ?_
                        refine WQ.val (fun _ _ => (R.mv (v := (int y_69)) h70)) ?_
                        refine WQ.val (fun _ _ => (R.mul rfl rfl)) ?_
                        refine WQ.val (fun _ _ => (R.add rfl rfl)) ?_
                        obtain ⟨s94, hs94, hy86⟩ := bindE hy86
                        refine WQ.val (fun _ _ => (R.subS rfl rfl rfl Tryz.underlying9 hs94)) ?_
                        refine WQ.val (fun _ _ => (R.mv (v := (str p_ppend)) h56)) ?_
                        obtain ⟨s95, hs95, hy86⟩ := bindE hy86
                        refine WQ.val (fun _ _ => (R.subS rfl rfl rfl Tryz.underlying9 hs95)) ?_
                        refine WQ.val (fun _ _ => (R.eqlS (a := s94) (b := s95) rfl rfl)) ?_
                        refine WQ.nil ?_
                        intro w91 H92 hle93 S
                        rcases condE hy86 with ⟨hc96, hy86⟩ | ⟨hc96, hy86⟩
                        · refine WP.condT rfl hc96 ?_
                          refine WP.region ?_
                          refine WL.valw (R.mv (v := (int y_69)) h70) ?_
                          refine WL.valw (R.add rfl rfl) ?_
                          refine WL.valw (R.as (v := (int (wr (y_69 + 1)))) rfl) ?_
                          refine WL.nil ?_
                          refine WP.region ?_
                          refine WL.valw (R.mv (v := (int y_69)) h70) ?_
                          refine WL.valw (R.add rfl rfl) ?_
                          refine WL.valw (R.as (v := (int (wr (y_69 + 1)))) rfl) ?_
                          refine WL.nil ?_
                          obtain rfl := Option.some.inj hy86
                          exact ⟨rfl, ⟨H92, h56, h57, h58, h59, h60, h61, h62, h63, h64, h65, h66, rfl, rfl, S⟩⟩
                        · refine WP.condF rfl hc96 ?_
                          refine WP.skip ?_
                          refine WP.region ?_
                          refine WL.valw (R.mv (v := (int y_69)) h70) ?_
                          refine WL.valw (R.add rfl rfl) ?_
                          refine WL.valw (R.as (v := (int (wr (y_69 + 1)))) rfl) ?_
                          refine WL.nil ?_
                          obtain rfl := Option.some.inj hy86
                          exact ⟨rfl, ⟨H92, h56, h57, h58, h59, h60, h61, h62, h63, h64, h65, h66, h68, rfl, S⟩⟩
                      · refine WP.condF rfl hc90 ?_
                        refine WP.exit ?_
                        obtain rfl := Option.some.inj hy86
                        obtain rfl := hy87
                        exact ⟨H55, h56, h57, h58, h59, h60, h61, h62, h63, h64, h65, h66, h68, S⟩
                  · rintro f w ⟨H71, h72, h73, h74, h75, h76, h77, h78, h79, h80, h81, h82, h84, S⟩
                    refine WP.seq ?_
                    refine WP.region ?_
                    refine WL.valw (R.mv (v := (int r35.1)) h75) ?_
                    refine WL.valw (R.mv (v := (int y_83)) h84) ?_
                    refine WL.valw (R.mv (v := (int r30.1)) h73) ?_
                    obtain ⟨r97, hr97, h⟩ := bindE h
                    refine W.call S rfl (ref19_Days_ok S.holds (hG.post S.post) r35.1 y_83 r30.1 hr97) ?_
                    rintro v98 w99 H100 hle101 S rfl
                    refine WL.valw (R.as (v := (int r97)) rfl) ?_
                    refine WL.nil ?_
                    refine WP.seq ?_
                    refine WP.seq ?_
                    refine WP.quiet S (by kernel_rfl) (by kernel_rfl) ?_
                    refine WQ.val (fun _ _ => (R.mv (v := (boo r30.2)) h74)) ?_
                    refine WQ.val (fun _ _ => (R.not rfl)) ?_
                    refine WQ.val (fun _ _ => (R.mv (v := (boo (!r30.2))) rfl)) ?_
                    refine WQ.grp 3 [102, 103] 104 (boo ((!r30.2) || (!r35.2))) ?_ ?_
                    · rcases boolE (!r30.2) with hb105 | hb105
                      · refine WQ.gno rfl rfl hb105 ?_
                        refine WQ.gno rfl rfl hb105 ?_
                        refine WQ.val (fun _ _ => (R.pickT rfl hb105 rfl)) ?_
                        exact WQ.nil ⟨(orT hb105), (by repeat (first | refine agree_upd rfl ?_ | refine agree_upds' rfl ?_ | exact agree_refl))⟩
                      · refine WQ.gyes rfl rfl hb105 ?_
                        refine WQ.val (fun _ _ => (R.mv (v := (boo r35.2)) h76)) ?_
                        refine WQ.gyes rfl rfl hb105 ?_
                        refine WQ.val (fun _ _ => (R.not rfl)) ?_
                        refine WQ.val (fun _ _ => (R.pickF rfl hb105 rfl)) ?_
                        exact WQ.nil ⟨(orF hb105), (by repeat (first | refine agree_upd rfl ?_ | refine agree_upds' rfl ?_ | exact agree_refl))⟩
                    · intro us
                      refine WQ.val (fun _ _ => (R.mv (v := (boo ((!r30.2) || (!r35.2)))) rfl)) ?_
                      refine WQ.grp 3 [106, 107] 108 (boo (((!r30.2) || (!r35.2)) || (!r40.2))) ?_ ?_
                      · rcases boolE ((!r30.2) || (!r35.2)) with hb107 | hb107
                        · refine WQ.gno rfl rfl hb107 ?_
                          refine WQ.gno rfl rfl hb107 ?_
                          refine WQ.val (fun _ _ => (R.pickT rfl hb107 rfl)) ?_
                          exact WQ.nil ⟨(orT hb107), (by repeat (first | refine agree_upd rfl ?_ | refine agree_upds' rfl ?_ | exact agree_refl))⟩
                        · refine WQ.gyes rfl rfl hb107 ?_
                          refine WQ.val (fun _ _ => (R.mv (v := (boo r40.2)) h78)) ?_
                          refine WQ.gyes rfl rfl hb107 ?_
                          refine WQ.val (fun _ _ => (R.not rfl)) ?_
                          refine WQ.val (fun _ _ => (R.pickF rfl hb107 rfl)) ?_
                          exact WQ.nil ⟨(orF hb107), (by repeat (first | refine agree_upd rfl ?_ | refine agree_upds' rfl ?_ | exact agree_refl))⟩
                      · intro us
                        refine WQ.val (fun _ _ => (R.mv (v := (boo (((!r30.2) || (!r35.2)) || (!r40.2)))) rfl)) ?_
                        refine WQ.grp 3 [110, 111] 112 (boo ((((!r30.2) || (!r35.2)) || (!r40.2)) || (!r45.2))) ?_ ?_
                        · rcases boolE (((!r30.2) || (!r35.2)) || (!r40.2)) with hb109 | hb109
                          · refine WQ.gno rfl rfl hb109 ?_
                            refine WQ.gno rfl rfl hb109 ?_
                            refine WQ.val (fun _ _ => (R.pickT rfl hb109 rfl)) ?_
                            exact WQ.nil ⟨(orT hb109), (by repeat (first | refine agree_upd rfl ?_ | refine agree_upds' rfl ?_ | exact agree_refl))⟩
                          · refine WQ.gyes rfl rfl hb109 ?_
                            refine WQ.val (fun _ _ => (R.mv (v := (boo r45.2)) h80)) ?_
                            refine WQ.gyes rfl rfl hb109 ?_
                            refine WQ.val (fun _ _ => (R.not rfl)) ?_
                            refine WQ.val (fun _ _ => (R.pickF rfl hb109 rfl)) ?_
                            exact WQ.nil ⟨(orF hb109), (by repeat (first | refine agree_upd rfl ?_ | refine agree_upds' rfl ?_ | exact agree_refl))⟩
                        · intro us
                          refine WQ.val (fun _ _ => (R.mv (v := (boo ((((!r30.2) || (!r35.2)) || (!r40.2)) || (!r45.2)))) rfl)) ?_
                          refine WQ.grp 3 [114, 115] 116 (boo (((((!r30.2) || (!r35.2)) || (!r40.2)) || (!r45.2)) || (!r50.2))) ?_ ?_
                          · rcases boolE ((((!r30.2) || (!r35.2)) || (!r40.2)) || (!r45.2)) with hb111 | hb111
                            · refine WQ.gno rfl rfl hb111 ?_
                              refine WQ.gno rfl rfl hb111 ?_
                              refine WQ.val (fun _ _ => (R.pickT rfl hb111 rfl)) ?_
                              exact WQ.nil ⟨(orT hb111), (by repeat (first | refine agree_upd rfl ?_ | refine agree_upds' rfl ?_ | exact agree_refl))⟩
                            · refine WQ.gyes rfl rfl hb111 ?_
                              refine WQ.val (fun _ _ => (R.mv (v := (boo r50.2)) h82)) ?_
                              refine WQ.gyes rfl rfl hb111 ?_
                              refine WQ.val (fun _ _ => (R.not rfl)) ?_
                              refine WQ.val (fun _ _ => (R.pickF rfl hb111 rfl)) ?_
                              exact WQ.nil ⟨(orF hb111), (by repeat (first | refine agree_upd rfl ?_ | refine agree_upds' rfl ?_ | exact agree_refl))⟩
                          · intro us
                            refine WQ.val (fun _ _ => (R.mv (v := (boo (((((!r30.2) || (!r35.2)) || (!r40.2)) || (!r45.2)) || (!r50.2)))) rfl)) ?_
                            refine WQ.grp 3 [118, 119] 120 (boo ((((((!r30.2) || (!r35.2)) || (!r40.2)) || (!r45.2)) || (!r50.2)) || (decide (r97 < 0)))) ?_ ?_
                            · rcases boolE (((((!r30.2) || (!r35.2)) || (!r40.2)) || (!r45.2)) || (!r50.2)) with hb113 | hb113
                              · refine WQ.gno rfl rfl hb113 ?_
                                refine WQ.gno rfl rfl hb113 ?_
                                refine WQ.val (fun _ _ => (R.pickT rfl hb113 rfl)) ?_
                                exact WQ.nil ⟨(orT hb113), (by repeat (first | refine agree_upd rfl ?_ | refine agree_upds' rfl ?_ | exact agree_refl))⟩
                              · refine WQ.gyes rfl rfl hb113 ?_
                                refine WQ.val (fun _ _ => (R.mv (v := (int r97)) rfl)) ?_
                                refine WQ.gyes rfl rfl hb113 ?_
                                refine WQ.val (fun _ _ => (R.lss rfl rfl)) ?_
                                refine WQ.val (fun _ _ => (R.pickF rfl hb113 rfl)) ?_
                                exact WQ.nil ⟨(orF hb113), (by repeat (first | refine agree_upd rfl ?_ | refine agree_upds' rfl ?_ | exact agree_refl))⟩
                            · intro us
                              refine WQ.val (fun _ _ => (R.mv (v := (boo ((((((!r30.2) || (!r35.2)) || (!r40.2)) || (!r45.2)) || (!r50.2)) || (decide (r97 < 0))))) rfl)) ?_
                              refine WQ.grp 3 [122, 123] 124 (boo (((((((!r30.2) || (!r35.2)) || (!r40.2)) || (!r45.2)) || (!r50.2)) || (decide (r97 < 0))) || (decide (23 < r40.1)))) ?_ ?_
                              · rcases boolE ((((((!r30.2) || (!r35.2)) || (!r40.2)) || (!r45.2)) || (!r50.2)) || (decide (r97 < 0))) with hb115 | hb115
                                · refine WQ.gno rfl rfl hb115 ?_
                                  refine WQ.gno rfl rfl hb115 ?_
                                  refine WQ.val (fun _ _ => (R.pickT rfl hb115 rfl)) ?_
                                  exact WQ.nil ⟨(orT hb115), (by repeat (first | refine agree_upd rfl ?_ | refine agree_upds' rfl ?_ | exact agree_refl))⟩
                                · refine WQ.gyes rfl rfl hb115 ?_
                                  refine WQ.val (fun _ _ => (R.mv (v := (int r40.1)) h77)) ?_
                                  refine WQ.gyes rfl rfl hb115 ?_
                                  refine WQ.val (fun _ _ => (R.gtr rfl rfl)) ?_
                                  refine WQ.val (fun _ _ => (R.pickF rfl hb115 rfl)) ?_
                                  exact WQ.nil ⟨(orF hb115), (by repeat (first | refine agree_upd rfl ?_ | refine agree_upds' rfl ?_ | exact agree_refl))⟩
                              · intro us
                                refine WQ.val (fun _ _ => (R.mv (v := (boo (((((((!r30.2) || (!r35.2)) || (!r40.2)) || (!r45.2)) || (!r50.2)) || (decide (r97 < 0))) || (decide (23 < r40.1))))) rfl)) ?_
                                refine WQ.grp 3 [126, 127] 128 (boo ((((((((!r30.2) || (!r35.2)) || (!r40.2)) || (!r45.2)) || (!r50.2)) || (decide (r97 < 0))) || (decide (23 < r40.1))) || (decide (59 < r45.1)))) ?_ ?_
                                · rcases boolE (((((((!r30.2) || (!r35.2)) || (!r40.2)) || (!r45.2)) || (!r50.2)) || (decide (r97 < 0))) || (decide (23 < r40.1))) with hb117 | hb117
                                  · refine WQ.gno rfl rfl hb117 ?_
                                    refine WQ.gno rfl rfl hb117 ?_
                                    refine WQ.val (fun _ _ => (R.pickT rfl hb117 rfl)) ?_
                                    exact WQ.nil ⟨(orT hb117), (by repeat (first | refine agree_upd rfl ?_ | refine agree_upds' rfl ?_ | exact agree_refl))⟩
                                  · refine WQ.gyes rfl rfl hb117 ?_
                                    refine WQ.val (fun _ _ => (R.mv (v := (int r45.1)) h79)) ?_
                                    refine WQ.gyes rfl rfl hb117 ?_
                                    refine WQ.val (fun _ _ => (R.gtr rfl rfl)) ?_
                                    refine WQ.val (fun _ _ => (R.pickF rfl hb117 rfl)) ?_
                                    exact WQ.nil ⟨(orF hb117), (by repeat (first | refine agree_upd rfl ?_ | refine agree_upds' rfl ?_ | exact agree_refl))⟩
                                · intro us
                                  refine WQ.val (fun _ _ => (R.mv (v := (boo ((((((((!r30.2) || (!r35.2)) || (!r40.2)) || (!r45.2)) || (!r50.2)) || (decide (r97 < 0))) || (decide (23 < r40.1))) || (decide (59 < r45.1))))) rfl)) ?_
                                  refine WQ.grp 3 [130, 131] 132 (boo (((((((((!r30.2) || (!r35.2)) || (!r40.2)) || (!r45.2)) || (!r50.2)) || (decide (r97 < 0))) || (decide (23 < r40.1))) || (decide (59 < r45.1))) || (decide (59 < r50.1)))) ?_ ?_
                                  · rcases boolE ((((((((!r30.2) || (!r35.2)) || (!r40.2)) || (!r45.2)) || (!r50.2)) || (decide (r97 < 0))) || (decide (23 < r40.1))) || (decide (59 < r45.1))) with hb119 | hb119
                                    · refine WQ.gno rfl rfl hb119 ?_
                                      refine WQ.gno rfl rfl hb119 ?_
                                      refine WQ.val (fun _ _ => (R.pickT rfl hb119 rfl)) ?_
                                      exact WQ.nil ⟨(orT hb119), (by repeat (first | refine agree_upd rfl ?_ | refine agree_upds' rfl ?_ | exact agree_refl))⟩
                                    · refine WQ.gyes rfl rfl hb119 ?_
                                      refine WQ.val (fun _ _ => (R.mv (v := (int r50.1)) h81)) ?_
                                      refine WQ.gyes rfl rfl hb119 ?_
                                      refine WQ.val (fun _ _ => (R.gtr rfl rfl)) ?_
                                      refine WQ.val (fun _ _ => (R.pickF rfl hb119 rfl)) ?_
                                      exact WQ.nil ⟨(orF hb119), (by repeat (first | refine agree_upd rfl ?_ | refine agree_upds' rfl ?_ | exact agree_refl))⟩
                                  · intro us
                                    refine WQ.val (fun _ _ => (R.mv (v := (boo (((((((((!r30.2) || (!r35.2)) || (!r40.2)) || (!r45.2)) || (!r50.2)) || (decide (r97 < 0))) || (decide (23 < r40.1))) || (decide (59 < r45.1))) || (decide (59 < r50.1))))) rfl)) ?_
                                    obtain ⟨b127, hg122, h⟩ := bindE h
                                    refine WQ.grp 12 [134, 135, 136, 137, 138, 139, 140, 141, 142, 143, 144] 145 (boo b127) ?_ ?_
                                    · rcases boolE (((((((((!r30.2) || (!r35.2)) || (!r40.2)) || (!r45.2)) || (!r50.2)) || (decide (r97 < 0))) || (decide (23 < r40.1))) || (decide (59 < r45.1))) || (decide (59 < r50.1))) with hb121 | hb121
                                      · replace hg122 := condT hg122 hb121
                                        refine WQ.gno rfl rfl hb121 ?_
                                        refine WQ.gno rfl rfl hb121 ?_
                                        refine WQ.gno rfl rfl hb121 ?_
                                        refine WQ.gno rfl rfl hb121 ?_
                                        refine WQ.gno rfl rfl hb121 ?_
                                        refine WQ.gno rfl rfl hb121 ?_
                                        refine WQ.gno rfl rfl hb121 ?_
                                        refine WQ.gno rfl rfl hb121 ?_
                                        refine WQ.gno rfl rfl hb121 ?_
                                        refine WQ.gno rfl rfl hb121 ?_
                                        refine WQ.gno rfl rfl hb121 ?_
                                        refine WQ.val (fun _ _ => (R.pickT rfl hb121 rfl)) ?_
                                        exact WQ.nil ⟨(congrArg boo (Option.some.inj hg122)), (by repeat (first | refine agree_upd rfl ?_ | refine agree_upds' rfl ?_ | exact agree_refl))⟩
                                      · replace hg122 := condF hg122 hb121
                                        refine WQ.gyes rfl rfl hb121 ?_
                                        refine WQ.val (fun _ _ => (R.mv (v := (int r97)) rfl)) ?_
                                        refine WQ.gyes rfl rfl hb121 ?_
                                        obtain ⟨n123, hn123, hg122⟩ := bindE hg122
                                        refine WQ.val (fun _ _ => (R.rem' rfl rfl hn123)) ?_
                                        refine WQ.gyes rfl rfl hb121 ?_
                                        refine WQ.val (fun _ _ => (R.mul rfl rfl)) ?_
                                        refine WQ.gyes rfl rfl hb121 ?_
                                        refine WQ.val (fun _ _ => (R.mv (v := (int r97)) rfl)) ?_
                                        refine WQ.gyes rfl rfl hb121 ?_
                                        obtain ⟨n124, hn124, hg122⟩ := bindE hg122
                                        refine WQ.val (fun _ _ => (R.rem' rfl rfl hn124)) ?_
                                        refine WQ.gyes rfl rfl hb121 ?_
                                        refine WQ.val (fun _ _ => (R.mul rfl rfl)) ?_
                                        refine WQ.gyes rfl rfl hb121 ?_
                                        refine WQ.val (fun _ _ => (R.add rfl rfl)) ?_
                                        refine WQ.gyes rfl rfl hb121 ?_
                                        obtain ⟨s125, hs125, hg122⟩ := bindE hg122
                                        refine WQ.val (fun _ _ => (R.subS rfl rfl rfl Tryz.underlying9 hs125)) ?_
                                        refine WQ.gyes rfl rfl hb121 ?_
                                        refine WQ.val (fun _ _ => (R.mv (v := (str p_ppend)) h72)) ?_
                                        refine WQ.gyes rfl rfl hb121 ?_
                                        obtain ⟨s126, hs126, hg122⟩ := bindE hg122
                                        refine WQ.val (fun _ _ => (R.subShi rfl rfl Tryz.underlying9 hs126)) ?_
                                        refine WQ.gyes rfl rfl hb121 ?_
                                        refine WQ.val (fun _ _ => (R.neqS (a := s125) (b := s126) rfl rfl)) ?_
                                        refine WQ.val (fun _ _ => (R.pickF rfl hb121 rfl)) ?_
                                        exact WQ.nil ⟨(congrArg boo (Option.some.inj hg122)), (by repeat (first | refine agree_upd rfl ?_ | refine agree_upds' rfl ?_ | exact agree_refl))⟩
                                    · intro us
                                      refine WQ.nil ?_
                                      intro w102 H103 hle104 S
                                      rcases condE h with ⟨hc128, h⟩ | ⟨hc128, h⟩
                                      · refine WP.condT rfl hc128 ?_
                                        refine WP.seq ?_
                                        refine WP.region ?_
                                        refine WL.valw (R.as (v := (int 0)) rfl) ?_
                                        refine WL.valw (R.as (v := (boo false)) rfl) ?_
                                        refine WL.nil ?_
                                        obtain rfl := Option.some.inj h
                                        refine WP.ret (Out.two rfl S rfl rfl ?_)
                                        exact rfl
                                      · refine WP.condF rfl hc128 ?_
                                        refine WP.skip ?_
                                        refine WP.seq ?_
                                        refine WP.region ?_
                                        refine WL.valw (R.mv (v := (int r97)) rfl) ?_
                                        refine WL.valw (R.mul rfl rfl) ?_
                                        refine WL.valw (R.mv (v := (int r40.1)) h77) ?_
                                        refine WL.valw (R.mul rfl rfl) ?_
                                        refine WL.valw (R.mv (v := (int r45.1)) h79) ?_
                                        refine WL.valw (R.mul rfl rfl) ?_
                                        refine WL.valw (R.add rfl rfl) ?_
                                        refine WL.valw (R.mv (v := (int r50.1)) h81) ?_
                                        refine WL.valw (R.add rfl rfl) ?_
                                        refine WL.valw (R.add rfl rfl) ?_
                                        refine WL.valw (R.as (v := (int (wr ((wr (r97 * 86400)) + (wr ((wr ((wr (r40.1 * 3600)) + (wr (r45.1 * 60)))) + r50.1)))))) rfl) ?_
                                        refine WL.valw (R.as (v := (boo true)) rfl) ?_
                                        refine WL.nil ?_
                                        obtain rfl := Option.some.inj h
                                        refine WP.ret (Out.two rfl S rfl rfl ?_)
                                        exact rfl
set_option maxRecDepth 10000 in
set_option maxHeartbeats 4000000 in
theorem ref19_firstDate_ok {w0 : World} {H0 : Hp} (hw : Holds w0 H0) (hG : Tryz.Gl w0) (p_l : (List GField)) (p_name : Str) {vp_l : Value} (Rp_l : Sl (α := GField) H0 vp_l p_l) {r : (Int × Bool)} (h : ref19_firstDate p_l p_name = some r) :
    Con Tryz.prog 157 [vp_l, (str p_name)] w0 H0 (fun H' v => v = (.tuple ⟨[(int r.1), (boo r.2)]⟩)) := by
  refine Con.mk (N := 20) Tryz.func157 rfl rfl (by kernel_rfl) rfl ?_
  have S := St.start hw
  refine WP.seq ?_
  refine WP.region ?_
  refine WL.valw (R.as (v := (int 0)) rfl) ?_
  refine WL.valw (R.as (v := (boo false)) rfl) ?_
  refine WL.nil ?_
  refine WP.seq ?_
  refine WP.region ?_
  refine WL.valw (R.mv (v := vp_l) rfl) ?_
  refine WL.valw (R.mv (v := (str p_name)) rfl) ?_
  obtain ⟨r1, hr1, h⟩ := bindE h
  refine W.call S rfl (ref01_First_ok S.holds (hG.post S.post) p_l p_name Rp_l hr1) ?_
  rintro v2 w3 H4 hle5 S rfl
  have Rp_l := Sl.mono Rp_l hle5
  refine WL.valw (R.mv (v := (.tuple ⟨[(str r1.1), (boo r1.2)]⟩)) rfl) ?_
  refine WL.valw (R.ext rfl rfl) ?_
  refine WL.valw (R.ext rfl rfl) ?_
  refine WL.valw (R.as (v := (str r1.1)) rfl) ?_
  refine WL.valw (R.as (v := (boo r1.2)) rfl) ?_
  refine WL.nil ?_
  refine WP.seq ?_
  refine WP.seq ?_
  refine WP.region ?_
  refine WL.valw (R.mv (v := (boo r1.2)) rfl) ?_
  refine WL.valw (R.not rfl) ?_
  refine WL.nil ?_
  rcases condE h with ⟨hc6, h⟩ | ⟨hc6, h⟩
  · refine WP.condT rfl hc6 ?_
    refine WP.seq ?_
    refine WP.region ?_
    refine WL.valw (R.as (v := (int 0)) rfl) ?_
    refine WL.valw (R.as (v := (boo false)) rfl) ?_
    refine WL.nil ?_
    obtain rfl := Option.some.inj h
    refine WP.ret (Out.two rfl S rfl rfl ?_)
    exact rfl
  · refine WP.condF rfl hc6 ?_
    refine WP.skip ?_
    refine WP.seq ?_
    refine WP.region ?_
    refine WL.valw (R.mv (v := (str r1.1)) rfl) ?_
    obtain ⟨r7, hr7, h⟩ := bindE h
    refine W.call S rfl (ref19_ParseDate_ok S.holds (hG.post S.post) r1.1 hr7) ?_
    rintro v8 w9 H10 hle11 S rfl
    have Rp_l := Sl.mono Rp_l hle11
    refine WL.valw (R.ext rfl rfl) ?_
    refine WL.valw (R.ext rfl rfl) ?_
    refine WL.valw (R.as (v := (int r7.1)) rfl) ?_
    refine WL.valw (R.as (v := (boo r7.2)) rfl) ?_
    refine WL.nil ?_
    obtain rfl := Option.some.inj h
    refine WP.ret (Out.two rfl S rfl rfl ?_)
    exact rfl
set_option maxRecDepth 10000 in
set_option maxHeartbeats 4000000 in
theorem ref19_DateOf_ok {w0 : World} {H0 : Hp} (hw : Holds w0 H0) (hG : Tryz.Gl w0) (p_l : (List GField)) (p_received : Int) {vp_l : Value} (Rp_l : Sl (α := GField) H0 vp_l p_l) {r : Int} (h : ref19_DateOf p_l p_received = some r) :
    Con Tryz.prog 115 [vp_l, (int p_received)] w0 H0 (fun H' v => v = (int r)) := by
  refine Con.mk (N := 15) Tryz.func115 rfl rfl (by kernel_rfl) rfl ?_
  have S := St.start hw
  refine WP.seq ?_
  refine WP.region ?_
  refine WL.valw (R.as (v := (int 0)) rfl) ?_
  refine WL.nil ?_
  refine WP.seq ?_
  refine WP.seq ?_
  refine WP.region ?_
  refine WL.valw (R.mv (v := vp_l) rfl) ?_
  obtain ⟨r1, hr1, h⟩ := bindE h
  refine W.call S rfl (ref19_firstDate_ok S.holds (hG.post S.post) p_l [68, 97, 116, 101] Rp_l hr1) ?_
  rintro v2 w3 H4 hle5 S rfl
  have Rp_l := Sl.mono Rp_l hle5
  refine WL.valw (R.mv (v := (.tuple ⟨[(int r1.1), (boo r1.2)]⟩)) rfl) ?_
  refine WL.valw (R.ext rfl rfl) ?_
  refine WL.valw (R.ext rfl rfl) ?_
  refine WL.valw (R.as (v := (int r1.1)) rfl) ?_
  refine WL.valw (R.as (v := (boo r1.2)) rfl) ?_
  refine WL.nil ?_
  refine WP.seq ?_
  refine WP.region ?_
  refine WL.valw (R.mv (v := (boo r1.2)) rfl) ?_
  refine WL.nil ?_
  rcases condE h with ⟨hc6, h⟩ | ⟨hc6, h⟩
  · refine WP.condT rfl hc6 ?_
    refine WP.seq ?_
    refine WP.region ?_
    refine WL.valw (R.mv (v := (int r1.1)) rfl) ?_
    refine WL.valw (R.as (v := (int r1.1)) rfl) ?_
    refine WL.nil ?_
    obtain rfl := Option.some.inj h
    refine WP.ret (Out.one rfl S rfl ?_)
    exact rfl
  · refine WP.condF rfl hc6 ?_
    refine WP.skip ?_
    refine WP.seq ?_
    refine WP.region ?_
    refine WL.valw (R.mv (v := (int p_received)) rfl) ?_
    refine WL.valw (R.as (v := (int p_received)) rfl) ?_
    refine WL.nil ?_
    obtain rfl := Option.some.inj h
    refine WP.ret (Out.one rfl S rfl ?_)
    exact rfl
set_option maxRecDepth 10000 in
set_option maxHeartbeats 4000000 in
theorem ref19_Age_ok {w0 : World} {H0 : Hp} (hw : Holds w0 H0) (hG : Tryz.Gl w0) (p_l : (List GField)) (p_requested : Int) (p_received : Int) (p_now : Int) {vp_l : Value} (Rp_l : Sl (α := GField) H0 vp_l p_l) {r : Int} (h : ref19_Age p_l p_requested p_received p_now = some r) :
    Con Tryz.prog 66 [vp_l, (int p_requested), (int p_received), (int p_now)] w0 H0 (fun H' v => v = (int r)) := by
  refine Con.mk (N := 60) Tryz.func66 rfl rfl (by kernel_rfl) rfl ?_
  have S := St.start hw
  refine WP.seq ?_
  refine WP.region ?_
  refine WL.valw (R.as (v := (int 0)) rfl) ?_
  refine WL.nil ?_
  refine WP.seq ?_
  refine WP.seq ?_
  refine WP.region ?_
  refine WL.valw (R.mv (v := (int p_requested)) rfl) ?_
  refine WL.valw (R.lss rfl rfl) ?_
  refine WL.valw (R.mv (v := (boo (decide (p_requested < 0)))) rfl) ?_
  refine WL.grp 4 [18, 19, 20] 21 (boo ((decide (p_requested < 0)) || (decide (p_received < p_requested)))) ?_ ?_
  · rcases boolE (decide (p_requested < 0)) with hb1 | hb1
    · refine WL.gno rfl rfl hb1 ?_
      refine WL.gno rfl rfl hb1 ?_
      refine WL.gno rfl rfl hb1 ?_
      refine WL.valw (R.pickT rfl hb1 rfl) ?_
      exact WL.nil ⟨(orT hb1), (by repeat (first | refine agree_upd rfl ?_ | refine agree_upds' rfl ?_ | exact agree_refl)), rfl⟩
    · refine WL.gyes rfl rfl hb1 ?_
      refine WL.valw (R.mv (v := (int p_requested)) rfl) ?_
      refine WL.gyes rfl rfl hb1 ?_
      refine WL.valw (R.mv (v := (int p_received)) rfl) ?_
      refine WL.gyes rfl rfl hb1 ?_
      refine WL.valw (R.gtr rfl rfl) ?_
      refine WL.valw (R.pickF rfl hb1 rfl) ?_
      exact WL.nil ⟨(orF hb1), (by repeat (first | refine agree_upd rfl ?_ | refine agree_upds' rfl ?_ | exact agree_refl)), rfl⟩
  · intro us
    refine WL.valw (R.mv (v := (boo ((decide (p_requested < 0)) || (decide (p_received < p_requested))))) rfl) ?_
    refine WL.grp 4 [23, 24, 25] 26 (boo (((decide (p_requested < 0)) || (decide (p_received < p_requested))) || (decide (p_now < p_received)))) ?_ ?_
    · rcases boolE ((decide (p_requested < 0)) || (decide (p_received < p_requested))) with hb3 | hb3
      · refine WL.gno rfl rfl hb3 ?_
        refine WL.gno rfl rfl hb3 ?_
        refine WL.gno rfl rfl hb3 ?_
        refine WL.valw (R.pickT rfl hb3 rfl) ?_
        exact WL.nil ⟨(orT hb3), (by repeat (first | refine agree_upd rfl ?_ | refine agree_upds' rfl ?_ | exact agree_refl)), rfl⟩
      · refine WL.gyes rfl rfl hb3 ?_
        refine WL.valw (R.mv (v := (int p_received)) rfl) ?_
        refine WL.gyes rfl rfl hb3 ?_
        refine WL.valw (R.mv (v := (int p_now)) rfl) ?_
        refine WL.gyes rfl rfl hb3 ?_
        refine WL.valw (R.gtr rfl rfl) ?_
        refine WL.valw (R.pickF rfl hb3 rfl) ?_
        exact WL.nil ⟨(orF hb3), (by repeat (first | refine agree_upd rfl ?_ | refine agree_upds' rfl ?_ | exact agree_refl)), rfl⟩
    · intro us
      refine WL.valw (R.mv (v := (boo (((decide (p_requested < 0)) || (decide (p_received < p_requested))) || (decide (p_now < p_received))))) rfl) ?_
      refine WL.grp 3 [28, 29] 30 (boo ((((decide (p_requested < 0)) || (decide (p_received < p_requested))) || (decide (p_now < p_received))) || (decide (1099511627776 < p_now)))) ?_ ?_
      · rcases boolE (((decide (p_requested < 0)) || (decide (p_received < p_requested))) || (decide (p_now < p_received))) with hb5 | hb5
        · refine WL.gno rfl rfl hb5 ?_
          refine WL.gno rfl rfl hb5 ?_
          refine WL.valw (R.pickT rfl hb5 rfl) ?_
          exact WL.nil ⟨(orT hb5), (by repeat (first | refine agree_upd rfl ?_ | refine agree_upds' rfl ?_ | exact agree_refl)), rfl⟩
        · refine WL.gyes rfl rfl hb5 ?_
          refine WL.valw (R.mv (v := (int p_now)) rfl) ?_
          refine WL.gyes rfl rfl hb5 ?_
          refine WL.valw (R.gtr rfl rfl) ?_
          refine WL.valw (R.pickF rfl hb5 rfl) ?_
          exact WL.nil ⟨(orF hb5), (by repeat (first | refine agree_upd rfl ?_ | refine agree_upds' rfl ?_ | exact agree_refl)), rfl⟩
      · intro us
        refine WL.nil ?_
        rcases condE h with ⟨hc7, h⟩ | ⟨hc7, h⟩
        · refine WP.condT rfl hc7 ?_
          refine WP.seq ?_
          refine WP.region ?_
          refine WL.valw (R.as (v := (int 2147483647)) rfl) ?_
          refine WL.nil ?_
          obtain rfl := Option.some.inj h
          refine WP.ret (Out.one rfl S rfl ?_)
          exact rfl
        · refine WP.condF rfl hc7 ?_
          refine WP.skip ?_
          refine WP.seq ?_
          refine WP.region ?_
          refine WL.valw (R.mv (v := vp_l) rfl) ?_
          obtain ⟨r8, hr8, h⟩ := bindE h
          refine W.call S rfl (ref01_First_ok S.holds (hG.post S.post) p_l [65, 103, 101] Rp_l hr8) ?_
          rintro v9 w10 H11 hle12 S rfl
          have Rp_l := Sl.mono Rp_l hle12
          refine WL.valw (R.mv (v := (.tuple ⟨[(str r8.1), (boo r8.2)]⟩)) rfl) ?_
          refine WL.valw (R.ext rfl rfl) ?_
          refine WL.valw (R.ext rfl rfl) ?_
          refine WL.valw (R.as (v := (str r8.1)) rfl) ?_
          refine WL.valw (R.as (v := (boo r8.2)) rfl) ?_
          refine WL.nil ?_
          refine WP.seq ?_
          refine WP.region ?_
          refine WL.valw (R.mv (v := (str r8.1)) rfl) ?_
          obtain ⟨r13, hr13, h⟩ := bindE h
          refine W.call S rfl (ref01_Number_ok S.holds (hG.post S.post) r8.1 hr13) ?_
          rintro v14 w15 H16 hle17 S rfl
          have Rp_l := Sl.mono Rp_l hle17
          refine WL.valw (R.mv (v := (.tuple ⟨[(int r13.1), (boo r13.2)]⟩)) rfl) ?_
          refine WL.valw (R.ext rfl rfl) ?_
          refine WL.valw (R.ext rfl rfl) ?_
          refine WL.valw (R.as (v := (int r13.1)) rfl) ?_
          refine WL.valw (R.as (v := (boo r13.2)) rfl) ?_
          refine WL.nil ?_
          refine WP.seq ?_
          refine WP.region ?_
          refine WL.valw (R.mv (v := (int p_received)) rfl) ?_
          refine WL.valw (R.mv (v := vp_l) rfl) ?_
          refine WL.valw (R.mv (v := (int p_received)) rfl) ?_
          obtain ⟨r18, hr18, h⟩ := bindE h
          refine W.call S rfl (ref19_DateOf_ok S.holds (hG.post S.post) p_l p_received Rp_l hr18) ?_
          rintro v19 w20 H21 hle22 S rfl
          have Rp_l := Sl.mono Rp_l hle22
          refine WL.valw (R.sub rfl rfl) ?_
          refine WL.valw (R.max rfl rfl) ?_
          refine WL.valw (R.as (v := (int (if 0 < (wr (p_received - r18)) then (wr (p_received - r18)) else 0))) rfl) ?_
          refine WL.nil ?_
          refine WP.seq ?_
          refine WP.region ?_
          refine WL.valw (R.mv (v := (int r13.1)) rfl) ?_
          refine WL.valw (R.mv (v := (int p_received)) rfl) ?_
          refine WL.valw (R.add rfl rfl) ?_
          refine WL.valw (R.mv (v := (int p_requested)) rfl) ?_
          refine WL.valw (R.sub rfl rfl) ?_
          refine WL.valw (R.as (v := (int (wr ((wr (r13.1 + p_received)) - p_requested)))) rfl) ?_
          refine WL.nil ?_
          refine WP.seq ?_
          refine WP.region ?_
          refine WL.valw (R.mv (v := (int (if 0 < (wr (p_received - r18)) then (wr (p_received - r18)) else 0))) rfl) ?_
          refine WL.valw (R.mv (v := (int (wr ((wr (r13.1 + p_received)) - p_requested)))) rfl) ?_
          refine WL.valw (R.max rfl rfl) ?_
          refine WL.valw (R.mv (v := (int p_now)) rfl) ?_
          refine WL.valw (R.add rfl rfl) ?_
          refine WL.valw (R.mv (v := (int p_received)) rfl) ?_
          refine WL.valw (R.sub rfl rfl) ?_
          refine WL.valw (R.min rfl rfl) ?_
          refine WL.valw (R.as (v := (int (if 2147483647 < (wr ((wr ((if (if 0 < (wr (p_received - r18)) then (wr (p_received - r18)) else 0) < (wr ((wr (r13.1 + p_received)) - p_requested)) then (wr ((wr (r13.1 + p_received)) - p_requested)) else (if 0 < (wr (p_received - r18)) then (wr (p_received - r18)) else 0)) + p_now)) - p_received)) then 2147483647 else (wr ((wr ((if (if 0 < (wr (p_received - r18)) then (wr (p_received - r18)) else 0) < (wr ((wr (r13.1 + p_received)) - p_requested)) then (wr ((wr (r13.1 + p_received)) - p_requested)) else (if 0 < (wr (p_received - r18)) then (wr (p_received - r18)) else 0)) + p_now)) - p_received))))) rfl) ?_
          refine WL.nil ?_
          obtain rfl := Option.some.inj h
          refine WP.ret (Out.one rfl S rfl ?_)
          exact rfl
set_option maxRecDepth 10000 in
set_option maxHeartbeats 4000000 in
theorem ref26_Age_ok {w0 : World} {H0 : Hp} (hw : Holds w0 H0) (hG : Tryz.Gl w0) (p_e : GEntry) (p_now : Int) {vp_e0 : Value} {vp_e1 : Value} {vp_e2 : Value} {vp_e4 : Value} (Rp_e0 : Sl (α := (List Str)) H0 vp_e0 p_e.fKeys) (Rp_e1 : Sl (α := Str) H0 vp_e1 p_e.fVary) (Rp_e2 : Sl (α := Str) H0 vp_e2 p_e.fSnapshot) (Rp_e4 : Sl (α := GField) H0 vp_e4 p_e.fFields) {r : Int} (h : ref26_Age p_e p_now = some r) :
    Con Tryz.prog 34 [(agg [vp_e0, vp_e1, vp_e2, (str p_e.fReason), vp_e4, (str p_e.fBody), (int p_e.fRequested), (int p_e.fReceived)]), (int p_now)] w0 H0 (fun H' v => v = (int r)) := by
  refine Con.mk (N := 13) Tryz.func34 rfl rfl (by kernel_rfl) rfl ?_
  have S := St.start hw
  refine WP.seq ?_
  refine WP.region ?_
  refine W.box [vp_e0, vp_e1, vp_e2, (str p_e.fReason), vp_e4, (str p_e.fBody), (int p_e.fRequested), (int p_e.fReceived)] S rfl rfl ?_
  intro b1 w2 S
  refine WL.valw (R.as (v := (int 0)) rfl) ?_
  refine WL.nil ?_
  refine WP.seq ?_
  refine WP.region ?_
  refine WL.valw (R.fieldB rfl fld26_4) ?_
  refine WL.valw (R.loadB (i := 0) (v := vp_e4) S rfl rfl lay24 rfl) ?_
  refine WL.valw (R.fieldB rfl fld26_6) ?_
  refine WL.valw (R.loadB (i := 0) (v := (int p_e.fRequested)) S rfl rfl lay2 rfl) ?_
  refine WL.valw (R.fieldB rfl fld26_7) ?_
  refine WL.valw (R.loadB (i := 0) (v := (int p_e.fReceived)) S rfl rfl lay2 rfl) ?_
  refine WL.valw (R.mv (v := (int p_now)) rfl) ?_
  obtain ⟨r3, hr3, h⟩ := bindE h
  refine W.call S rfl (ref19_Age_ok S.holds (hG.post S.post) p_e.fFields p_e.fRequested p_e.fReceived p_now Rp_e4 hr3) ?_
  rintro v4 w5 H6 hle7 S rfl
  have Rp_e0 := Sl.mono Rp_e0 hle7
  have Rp_e1 := Sl.mono Rp_e1 hle7
  have Rp_e2 := Sl.mono Rp_e2 hle7
  have Rp_e4 := Sl.mono Rp_e4 hle7
  refine WL.valw (R.as (v := (int r3)) rfl) ?_
  refine WL.nil ?_
  obtain rfl := Option.some.inj h
  refine WP.ret (Out.one rfl S rfl ?_)
  exact rfl
set_option maxRecDepth 10000 in
set_option maxHeartbeats 4000000 in
theorem ref01_Remove_ok {w0 : World} {H0 : Hp} (hw : Holds w0 H0) (hG : Tryz.Gl w0) (p_l : (List GField)) (p_name : Str) {vp_l : Value} (Rp_l : Sl (α := GField) H0 vp_l p_l) {r : (List GField)} (h : ref01_Remove p_l p_name = some r) :
    Con Tryz.prog 23 [vp_l, (str p_name)] w0 H0 (fun H' v => Sl (α := GField) H' v r) := by
  refine Con.mk (N := 29) Tryz.func23 rfl rfl (by kernel_rfl) rfl ?_
  have S := St.start hw
  refine WP.seq ?_
  refine WP.region ?_
  refine WL.valw (R.as (v := (.slice none 0 0)) rfl) ?_
  refine WL.nil ?_
  refine WP.seq ?_
  refine WP.region ?_
  refine WL.valw (R.as (v := (.slice none 0 0)) rfl) ?_
  refine WL.nil ?_
  refine WP.seq ?_
  refine WP.seq ?_
  refine WP.region ?_
  refine WL.valw (R.as (v := (int 0)) rfl) ?_
  refine WL.nil ?_
  have S := S.addNil 53 2
  obtain ⟨out_11, hr19, h⟩ := bindE h
  refine WP.cut (fun f w => ∃ (H10 : Hp) (v12 : Value), f 5 = v12 ∧ Sl (α := GField) H10 v12 out_11 ∧ St w0 H0 w H10 [.row v12 53 2 out_11.length]) ?_ ?_
  · refine WP.block ?_
    refine WP.loopM (ref01_Remove_L0 p_l p_name) (fun s f w => match s with | (out_4, i_8) => ∃ (H1 : Hp) (v5 : Value), f 0 = vp_l ∧ f 1 = (str p_name) ∧ f 5 = v5 ∧ f 6 = (int i_8) ∧ Sl (α := GField) H1 vp_l p_l ∧ Sl (α := GField) H1 v5 out_4 ∧ St w0 H0 w H1 [.row v5 53 2 out_4.length]) (([] : List GField), 0) out_11 hr19 ?_ ?_
    · exact ⟨H0, .slice none 0 0, rfl, rfl, rfl, rfl, Rp_l, Sl.nil, S⟩
    · intro s f w hI y15 hy16 hy17
      obtain ⟨out_4, i_8⟩ := s
      obtain ⟨H1, v5, h2, h3, h7, h9, Rp_l, R6, S⟩ := hI
      refine WP.seq ?_
      refine WP.seq ?_
      refine WP.region ?_
      refine WL.valw (R.mv (v := (int i_8)) h9) ?_
      refine WL.valw (R.mv (v := vp_l) h2) ?_
      refine WL.valw (R.lenL (α := GField) (xs := p_l) (H := H1) Rp_l rfl Tryz.underlying24) ?_
      refine WL.valw (R.lss rfl rfl) ?_
      refine WL.nil ?_
      rcases condE hy16 with ⟨hc20, hy16⟩ | ⟨hc20, hy16⟩
      · refine WP.condT rfl hc20 ?_
        refine WP.skip ?_
        refine WP.seq ?_
        refine WP.block ?_
        refine WP.seq ?_
        refine WP.region ?_
        refine WL.valw (R.mv (v := vp_l) h2) ?_
        refine WL.valw (R.mv (v := (int i_8)) h9) ?_
        obtain ⟨x21, hx21, hy16⟩ := bindE hy16
        refine W.idx (α := GField) Rp_l rfl rfl el24 hx21 ?_
        rintro a22 _ hA23 rfl
        refine WL.valw (R.field rfl fld53_0) ?_
        have hA24 := At.add hA23 0 (by simp)
        refine WL.valw (R.loadH (v := (str x21.fName)) S rfl hA24 lay9 rfl) ?_
        refine WL.valw (R.mv (v := (str p_name)) h3) ?_
        obtain ⟨r25, hr25, hy16⟩ := bindE hy16
        refine W.call S rfl (ref01_Fold_ok S.holds (hG.post S.post) x21.fName p_name hr25) ?_
        rintro v26 w27 H28 hle29 S rfl
        have Rp_l := Sl.mono Rp_l hle29
        have R6 := Sl.mono R6 hle29
        have hA23 := At.mono hA23 hle29 (by simp)
        have hA24 := At.mono hA24 hle29 (by simp)
        refine WL.valw (R.not rfl) ?_
        refine WL.nil ?_
        rcases condE hy16 with ⟨hc30, hy16⟩ | ⟨hc30, hy16⟩
        · refine WP.condT rfl hc30 ?_
          refine WP.region ?_
          refine WL.valw (R.mv (v := v5) h7) ?_
          refine WL.valw (R.mv (v := vp_l) h2) ?_
          refine WL.valw (R.mv (v := (int i_8)) h9) ?_
          obtain ⟨x31, hx31, hy16⟩ := bindE hy16
          refine W.idx (α := GField) Rp_l rfl rfl el24 hx31 ?_
          rintro a32 _ hA33 rfl
          refine WL.valw (R.loadHN (vs := [(str x31.fName), (str x31.fValue)]) S rfl hA33 lay53 rfl rfl) ?_
          refine W.bslice (α := GField) [(agg [(str x31.fName), (str x31.fValue)])] ([x31] : List GField) S el24 rfl rfl rfl (by decide) (Go.Eng.encS ⟨rfl, rfl⟩ enc0) ?_
          intro u34 w35 H36 hle37 R38 S
          have Rp_l := Sl.mono Rp_l hle37
          have R6 := Sl.mono R6 hle37
          have hA23 := At.mono hA23 hle37 (by simp)
          have hA24 := At.mono hA24 hle37 (by simp)
          have hA33 := At.mono hA33 hle37 (by simp)
          obtain ⟨l39, hl39, hy16⟩ := bindE hy16
          refine W.app (α := GField) (i := 1) S el24 rfl rfl rfl R6 R38 hl39 ?_
          intro v40 w41 H42 hle43 R44 S
          have Rp_l := Sl.mono Rp_l hle43
          have R6 := Sl.mono R6 hle43
          have hA23 := At.mono hA23 hle43 (by simp)
          have hA24 := At.mono hA24 hle43 (by simp)
          have hA33 := At.mono hA33 hle43 (by simp)
          have R38 := Sl.mono R38 hle43
          refine WL.valw (R.as (v := v40) rfl) ?_
          refine WL.nil ?_
          refine WP.region ?_
          refine WL.valw (R.mv (v := (int i_8)) h9) ?_
          refine WL.valw (R.add rfl rfl) ?_
          refine WL.valw (R.as (v := (int (wr (i_8 + 1)))) rfl) ?_
          refine WL.nil ?_
          obtain rfl := Option.some.inj hy16
          exact ⟨rfl, ⟨H42, v40, h2, h3, rfl, rfl, Rp_l, R44, (S.drop _ (.cons _ (.cons_cons _ .slnil)))⟩⟩
        · refine WP.condF rfl hc30 ?_
          refine WP.skip ?_
          refine WP.region ?_
          refine WL.valw (R.mv (v := (int i_8)) h9) ?_
          refine WL.valw (R.add rfl rfl) ?_
          refine WL.valw (R.as (v := (int (wr (i_8 + 1)))) rfl) ?_
          refine WL.nil ?_
          obtain rfl := Option.some.inj hy16
          exact ⟨rfl, ⟨H28, v5, h2, h3, h7, rfl, Rp_l, R6, S⟩⟩
      · refine WP.condF rfl hc20 ?_
        refine WP.exit ?_
        obtain rfl := Option.some.inj hy16
        obtain rfl := hy17
        exact ⟨H1, v5, h7, R6, S⟩
  · rintro f w ⟨H10, v12, h14, R13, S⟩
    refine WP.seq ?_
    refine WP.region ?_
    refine WL.valw (R.mv (v := v12) h14) ?_
    refine WL.valw (R.as (v := v12) rfl) ?_
    refine WL.nil ?_
    obtain rfl := Option.some.inj h
    refine WP.ret (Out.one rfl S rfl ?_)
    exact R13
set_option maxRecDepth 10000 in
set_option maxHeartbeats 4000000 in
theorem ref01_Decimal_ok {w0 : World} {H0 : Hp} (hw : Holds w0 H0) (hG : Tryz.Gl w0) (p_n : Int) {r : Str} (h : ref01_Decimal p_n = some r) :
    Con Tryz.prog 64 [(int p_n)] w0 H0 (fun H' v => v = (str r)) := by
  refine Con.mk (N := 37) Tryz.func64 rfl rfl (by kernel_rfl) rfl ?_
  have S := St.start hw
  refine WP.seq ?_
  refine WP.region ?_
  refine WL.valw (R.as (v := (str [])) rfl) ?_
  refine WL.nil ?_
  refine WP.seq ?_
  refine WP.region ?_
  refine WL.valw (R.as (v := (.slice none 0 0)) rfl) ?_
  refine WL.nil ?_
  refine WP.seq ?_
  refine WP.region ?_
  refine WL.valw (R.mv (v := (int p_n)) rfl) ?_
  refine WL.valw (R.lss rfl rfl) ?_
  refine WL.valw (R.as (v := (boo (decide (p_n < 0)))) rfl) ?_
  refine WL.nil ?_
  refine WP.seq ?_
  refine WP.seq ?_
  refine WP.region ?_
  refine WL.valw (R.as (v := (int 0)) rfl) ?_
  refine WL.nil ?_
  obtain ⟨b_12, hr21, h⟩ := bindE h
  refine WP.cut (fun f w => ∃ (H11 : Hp) (v13 : Value), f 3 = v13 ∧ f 4 = (boo (decide (p_n < 0))) ∧ Sl (α := UInt8) H11 v13 b_12 ∧ St w0 H0 w H11 []) ?_ ?_
  · refine WP.block ?_
    refine WP.loopM (ref01_Decimal_L0) (fun s f w => match s with | (n_2, b_4, k_9) => ∃ (H1 : Hp) (v5 : Value), f 0 = (int n_2) ∧ f 3 = v5 ∧ f 4 = (boo (decide (p_n < 0))) ∧ f 5 = (int k_9) ∧ Sl (α := UInt8) H1 v5 b_4 ∧ St w0 H0 w H1 []) (p_n, ([] : List UInt8), 0) b_12 hr21 ?_ ?_
    · exact ⟨H0, .slice none 0 0, rfl, rfl, rfl, rfl, Sl.nil, S⟩
    · intro s f w hI y17 hy18 hy19
      obtain ⟨n_2, b_4, k_9⟩ := s
      obtain ⟨H1, v5, h3, h7, h8, h10, R6, S⟩ := hI
      refine WP.seq ?_
      refine WP.seq ?_
      refine WP.region ?_
      refine WL.valw (R.mv (v := (int n_2)) h3) ?_
      refine WL.valw (R.neq rfl rfl) ?_
      refine WL.valw (R.mv (v := (boo (n_2 != 0))) rfl) ?_
      refine WL.grp 3 [12, 13] 14 (boo ((n_2 != 0) || (k_9 == 0))) ?_ ?_
      · rcases boolE (n_2 != 0) with hb22 | hb22
        · refine WL.gno rfl rfl hb22 ?_
          refine WL.gno rfl rfl hb22 ?_
          refine WL.valw (R.pickT rfl hb22 rfl) ?_
          exact WL.nil ⟨(orT hb22), (by repeat (first | refine agree_upd rfl ?_ | refine agree_upds' rfl ?_ | exact agree_refl)), rfl⟩
        · refine WL.gyes rfl rfl hb22 ?_
          refine WL.valw (R.mv (v := (int k_9)) h10) ?_
          refine WL.gyes rfl rfl hb22 ?_
          refine WL.valw (R.eql rfl rfl) ?_
          refine WL.valw (R.pickF rfl hb22 rfl) ?_
          exact WL.nil ⟨(orF hb22), (by repeat (first | refine agree_upd rfl ?_ | refine agree_upds' rfl ?_ | exact agree_refl)), rfl⟩
      · intro us
        refine WL.nil ?_
        rcases condE hy18 with ⟨hc24, hy18⟩ | ⟨hc24, hy18⟩
        · refine WP.condT rfl hc24 ?_
          refine WP.skip ?_
          refine WP.seq ?_
          refine WP.block ?_
          refine WP.seq ?_
          refine WP.region ?_
          refine WL.valw (R.mv (v := (int n_2)) h3) ?_
          obtain ⟨n25, hn25, hy18⟩ := bindE hy18
          refine WL.valw (R.rem' rfl rfl hn25) ?_
          refine WL.valw (R.as (v := (int n25)) rfl) ?_
          refine WL.nil ?_
          refine WP.seq ?_
          refine WP.seq ?_
          refine WP.region ?_
          refine WL.valw (R.mv (v := (int n25)) rfl) ?_
          refine WL.valw (R.lss rfl rfl) ?_
          refine WL.nil ?_
          obtain ⟨d_31, hj33, hy18⟩ := bindE hy18
          refine WP.cut (fun f w => ∃ (H26 : Hp), f 0 = (int n_2) ∧ f 3 = v5 ∧ f 4 = (boo (decide (p_n < 0))) ∧ f 5 = (int k_9) ∧ f 6 = (int d_31) ∧ Sl (α := UInt8) H26 v5 b_4 ∧ St w0 H0 w H26 []) ?_ ?_
          · rcases condE hj33 with ⟨hc35, hj33⟩ | ⟨hc35, hj33⟩
            · refine WP.condT rfl hc35 ?_
              refine WP.region ?_
              refine WL.valw (R.mv (v := (int n25)) rfl) ?_
              refine WL.valw (R.neg rfl) ?_
              refine WL.valw (R.as (v := (int (wr (-n25)))) rfl) ?_
              refine WL.nil ?_
              obtain rfl := Option.some.inj hj33
              exact ⟨H1, h3, h7, h8, h10, rfl, R6, S⟩
            · refine WP.condF rfl hc35 ?_
              refine WP.skip ?_
              obtain rfl := Option.some.inj hj33
              exact ⟨H1, h3, h7, h8, h10, rfl, R6, S⟩
          · rintro f w ⟨H26, h27, h28, h29, h30, h32, R6, S⟩
            refine WP.seq ?_
            refine WP.region ?_
            refine WL.valw (R.mv (v := (int d_31)) h32) ?_
            refine WL.valw (R.add rfl rfl) ?_
            refine WL.valw (R.u8of64 rfl Tryz.underlying3 Tryz.underlying5) ?_
            refine W.bslice (α := UInt8) [(byt (toU8 (wr (48 + d_31))))] ([toU8 (wr (48 + d_31))] : List UInt8) S el130 rfl rfl rfl (by decide) (Go.Eng.encS ⟨rfl, rfl⟩ enc0) ?_
            intro u36 w37 H38 hle39 R40 S
            have R6 := Sl.mono R6 hle39
            refine WL.valw (R.mv (v := v5) h28) ?_
            obtain ⟨l41, hl41, hy18⟩ := bindE hy18
            refine W.app (α := UInt8) (i := 0) S el130 rfl rfl rfl R40 R6 hl41 ?_
            intro v42 w43 H44 hle45 R46 S
            have R6 := Sl.mono R6 hle45
            have R40 := Sl.mono R40 hle45
            refine WL.valw (R.as (v := v42) rfl) ?_
            refine WL.nil ?_
            refine WP.region ?_
            refine WL.valw (R.mv (v := (int n_2)) h27) ?_
            obtain ⟨n47, hn47, hy18⟩ := bindE hy18
            refine WL.valw (R.quo' rfl rfl hn47) ?_
            refine WL.valw (R.as (v := (int n47)) rfl) ?_
            refine WL.nil ?_
            refine WP.region ?_
            refine WL.valw (R.mv (v := (int k_9)) h30) ?_
            refine WL.valw (R.add rfl rfl) ?_
            refine WL.valw (R.as (v := (int (wr (k_9 + 1)))) rfl) ?_
            refine WL.nil ?_
            obtain rfl := Option.some.inj hy18
            exact ⟨rfl, ⟨H44, v42, rfl, rfl, h29, rfl, R46, (S.drop _ (.cons _ .slnil))⟩⟩
        · refine WP.condF rfl hc24 ?_
          refine WP.exit ?_
          obtain rfl := Option.some.inj hy18
          obtain rfl := hy19
          exact ⟨H1, v5, h7, h8, R6, S⟩
  · rintro f w ⟨H11, v13, h15, h16, R14, S⟩
    refine WP.seq ?_
    refine WP.seq ?_
    refine WP.region ?_
    refine WL.valw (R.mv (v := (boo (decide (p_n < 0)))) h16) ?_
    refine WL.nil ?_
    rcases condE h with ⟨hc48, h⟩ | ⟨hc48, h⟩
    · refine WP.condT rfl hc48 ?_
      refine WP.seq ?_
      refine WP.region ?_
      refine WL.valw (R.mv (v := v13) h15) ?_
      refine WL.valw (R.strL S R14 rfl Tryz.underlying130 Tryz.underlying9 Tryz.underlying5) ?_
      obtain ⟨s49, hs49, h⟩ := bindE h
      refine WL.valw (R.cat (a := [45]) (b := b_12) rfl rfl hs49) ?_
      refine WL.valw (R.as (v := (str s49)) rfl) ?_
      refine WL.nil ?_
      obtain rfl := Option.some.inj h
      refine WP.ret (Out.one rfl S rfl ?_)
      exact rfl
    · refine WP.condF rfl hc48 ?_
      refine WP.skip ?_
      refine WP.seq ?_
      refine WP.region ?_
      refine WL.valw (R.mv (v := v13) h15) ?_
      refine WL.valw (R.strL S R14 rfl Tryz.underlying130 Tryz.underlying9 Tryz.underlying5) ?_
      refine WL.valw (R.as (v := (str b_12)) rfl) ?_
      refine WL.nil ?_
      obtain rfl := Option.some.inj h
      refine WP.ret (Out.one rfl S rfl ?_)
      exact rfl
set_option maxRecDepth 10000 in
set_option maxHeartbeats 4000000 in
theorem ref19_Via_ok {w0 : World} {H0 : Hp} (hw : Holds w0 H0) (hG : Tryz.Gl w0) (p_l : (List GField)) (p_minor : Int) (p_name : Str) {vp_l : Value} (Rp_l : Sl (α := GField) H0 vp_l p_l) {r : (List GField)} (h : ref19_Via p_l p_minor p_name = some r) :
    Con Tryz.prog 65 [vp_l, (int p_minor), (str p_name)] w0 H0 (fun H' v => Sl (α := GField) H' v r) := by
  refine Con.mk (N := 18) Tryz.func65 rfl rfl (by kernel_rfl) rfl ?_
  have S := St.start hw
  refine WP.seq ?_
  refine WP.region ?_
  refine WL.valw (R.as (v := (.slice none 0 0)) rfl) ?_
  refine WL.nil ?_
  refine WP.seq ?_
  refine WP.region ?_
  refine WL.valw (R.mv (v := vp_l) rfl) ?_
  have S := S.addNil 53 2
  obtain ⟨l1, hl1, h⟩ := bindE h
  refine W.app (α := GField) (i := 0) S el24 rfl rfl rfl Sl.nil Rp_l hl1 ?_
  intro v2 w3 H4 hle5 R6 S
  have Rp_l := Sl.mono Rp_l hle5
  refine WL.valw (R.mv (v := (int p_minor)) rfl) ?_
  obtain ⟨r7, hr7, h⟩ := bindE h
  refine W.call S rfl (ref01_Decimal_ok S.holds (hG.post S.post) p_minor hr7) ?_
  rintro v8 w9 H10 hle11 S rfl
  have Rp_l := Sl.mono Rp_l hle11
  have R6 := Sl.mono R6 hle11
  obtain ⟨s12, hs12, h⟩ := bindE h
  refine WL.valw (R.cat (a := [49, 46]) (b := r7) rfl rfl hs12) ?_
  obtain ⟨s13, hs13, h⟩ := bindE h
  refine WL.valw (R.cat (a := s12) (b := [32]) rfl rfl hs13) ?_
  refine WL.valw (R.mv (v := (str p_name)) rfl) ?_
  obtain ⟨s14, hs14, h⟩ := bindE h
  refine WL.valw (R.cat (a := s13) (b := p_name) rfl rfl hs14) ?_
  refine WL.valw (R.build [(0, (str [86, 105, 97])), (1, (str s14))] [(str [86, 105, 97]), (str s14)] bp53 zer53 rfl rfl) ?_
  refine W.bslice (α := GField) [(agg [(str [86, 105, 97]), (str s14)])] ([(⟨[86, 105, 97], s14⟩ : GField)] : List GField) S el24 rfl rfl rfl (by decide) (Go.Eng.encS ⟨rfl, rfl⟩ enc0) ?_
  intro u15 w16 H17 hle18 R19 S
  have Rp_l := Sl.mono Rp_l hle18
  have R6 := Sl.mono R6 hle18
  obtain ⟨l20, hl20, h⟩ := bindE h
  refine W.app (α := GField) (i := 1) S el24 rfl rfl rfl R6 R19 hl20 ?_
  intro v21 w22 H23 hle24 R25 S
  have Rp_l := Sl.mono Rp_l hle24
  have R6 := Sl.mono R6 hle24
  have R19 := Sl.mono R19 hle24
  refine WL.valw (R.as (v := v21) rfl) ?_
  refine WL.nil ?_
  obtain rfl := Option.some.inj h
  refine WP.ret (Out.one rfl S rfl ?_)
  exact R25
set_option maxRecDepth 10000 in
set_option maxHeartbeats 4000000 in
theorem ref01_Remove_okR {w0 ws : World} {H0 Hs : Hp} {L2 : List Ent} (hG : Tryz.Gl w0) (p_l : (List GField)) (p_name : Str) {vp_l : Value} (S : St w0 H0 ws Hs (L2)) (Rp_l : Sl (α := GField) Hs vp_l p_l) {r : (List GField)} (h : ref01_Remove p_l p_name = some r) :
    ConS Tryz.prog 23 [vp_l, (str p_name)] w0 H0 ws Hs L2 (fun H' v L' => ∃ u1 : Value, L' = [.row u1 53 2 r.length] ∧ v = u1 ∧ Sl (α := GField) H' u1 r) := by
  refine ConS.mk (N := 29) Tryz.func23 rfl rfl (by kernel_rfl) rfl ?_
  refine WP.seq ?_
  refine WP.region ?_
  refine WL.valw (R.as (v := (.slice none 0 0)) rfl) ?_
  refine WL.nil ?_
  refine WP.seq ?_
  refine WP.region ?_
  refine WL.valw (R.as (v := (.slice none 0 0)) rfl) ?_
  refine WL.nil ?_
  refine WP.seq ?_
  refine WP.seq ?_
  refine WP.region ?_
  refine WL.valw (R.as (v := (int 0)) rfl) ?_
  refine WL.nil ?_
  have S := S.addNil 53 2
  obtain ⟨out_12, hr21, h⟩ := bindE h
  refine WP.cut (fun f w => ∃ (H11 : Hp) (v13 : Value), f 5 = v13 ∧ Sl (α := GField) H11 v13 out_12 ∧ Hp.le Hs H11 ∧ St w0 H0 w H11 (.row v13 53 2 out_12.length :: L2)) ?_ ?_
  · refine WP.block ?_
    refine WP.loopM (ref01_Remove_L0 p_l p_name) (fun s f w => match s with | (out_4, i_8) => ∃ (H1 : Hp) (v5 : Value), f 0 = vp_l ∧ f 1 = (str p_name) ∧ f 5 = v5 ∧ f 6 = (int i_8) ∧ Sl (α := GField) H1 vp_l p_l ∧ Sl (α := GField) H1 v5 out_4 ∧ Hp.le Hs H1 ∧ St w0 H0 w H1 (.row v5 53 2 out_4.length :: L2)) (([] : List GField), 0) out_12 hr21 ?_ ?_
    · exact ⟨Hs, .slice none 0 0, rfl, rfl, rfl, rfl, Rp_l, Sl.nil, (Hp.le.refl _), S⟩
    · intro s f w hI y17 hy18 hy19
      obtain ⟨out_4, i_8⟩ := s
      obtain ⟨H1, v5, h2, h3, h7, h9, Rp_l, R6, hE10, S⟩ := hI
      refine WP.seq ?_
      refine WP.seq ?_
      refine WP.region ?_
      refine WL.valw (R.mv (v := (int i_8)) h9) ?_
      refine WL.valw (R.mv (v := vp_l) h2) ?_
      refine WL.valw (R.lenL (α := GField) (xs := p_l) (H := H1) Rp_l rfl Tryz.underlying24) ?_
      refine WL.valw (R.lss rfl rfl) ?_
      refine WL.nil ?_
      rcases condE hy18 with ⟨hc22, hy18⟩ | ⟨hc22, hy18⟩
      · refine WP.condT rfl hc22 ?_
        refine WP.skip ?_
        refine WP.seq ?_
        refine WP.block ?_
        refine WP.seq ?_
        refine WP.region ?_
        refine WL.valw (R.mv (v := vp_l) h2) ?_
        refine WL.valw (R.mv (v := (int i_8)) h9) ?_
        obtain ⟨x23, hx23, hy18⟩ := bindE hy18
        refine W.idx (α := GField) Rp_l rfl rfl el24 hx23 ?_
        rintro a24 _ hA25 rfl
        refine WL.valw (R.field rfl fld53_0) ?_
        have hA26 := At.add hA25 0 (by simp)
        refine WL.valw (R.loadH (v := (str x23.fName)) S rfl hA26 lay9 rfl) ?_
        refine WL.valw (R.mv (v := (str p_name)) h3) ?_
        obtain ⟨r27, hr27, hy18⟩ := bindE hy18
        refine W.call S rfl (ref01_Fold_ok S.holds (hG.post S.post) x23.fName p_name hr27) ?_
        rintro v28 w29 H30 hle31 S rfl
        have Rp_l := Sl.mono Rp_l hle31
        have R6 := Sl.mono R6 hle31
        have hA25 := At.mono hA25 hle31 (by simp)
        have hA26 := At.mono hA26 hle31 (by simp)
        refine WL.valw (R.not rfl) ?_
        refine WL.nil ?_
        rcases condE hy18 with ⟨hc32, hy18⟩ | ⟨hc32, hy18⟩
        · refine WP.condT rfl hc32 ?_
          refine WP.region ?_
          refine WL.valw (R.mv (v := v5) h7) ?_
          refine WL.valw (R.mv (v := vp_l) h2) ?_
          refine WL.valw (R.mv (v := (int i_8)) h9) ?_
          obtain ⟨x33, hx33, hy18⟩ := bindE hy18
          refine W.idx (α := GField) Rp_l rfl rfl el24 hx33 ?_
          rintro a34 _ hA35 rfl
          refine WL.valw (R.loadHN (vs := [(str x33.fName), (str x33.fValue)]) S rfl hA35 lay53 rfl rfl) ?_
          refine W.bslice (α := GField) [(agg [(str x33.fName), (str x33.fValue)])] ([x33] : List GField) S el24 rfl rfl rfl (by decide) (Go.Eng.encS ⟨rfl, rfl⟩ enc0) ?_
          intro u36 w37 H38 hle39 R40 S
          have Rp_l := Sl.mono Rp_l hle39
          have R6 := Sl.mono R6 hle39
          have hA25 := At.mono hA25 hle39 (by simp)
          have hA26 := At.mono hA26 hle39 (by simp)
          have hA35 := At.mono hA35 hle39 (by simp)
          obtain ⟨l41, hl41, hy18⟩ := bindE hy18
          refine W.app (α := GField) (i := 1) S el24 rfl rfl rfl R6 R40 hl41 ?_
          intro v42 w43 H44 hle45 R46 S
          have Rp_l := Sl.mono Rp_l hle45
          have R6 := Sl.mono R6 hle45
          have hA25 := At.mono hA25 hle45 (by simp)
          have hA26 := At.mono hA26 hle45 (by simp)
          have hA35 := At.mono hA35 hle45 (by simp)
          have R40 := Sl.mono R40 hle45
          refine WL.valw (R.as (v := v42) rfl) ?_
          refine WL.nil ?_
          refine WP.region ?_
          refine WL.valw (R.mv (v := (int i_8)) h9) ?_
          refine WL.valw (R.add rfl rfl) ?_
          refine WL.valw (R.as (v := (int (wr (i_8 + 1)))) rfl) ?_
          refine WL.nil ?_
          obtain rfl := Option.some.inj hy18
          exact ⟨rfl, ⟨H44, v42, h2, h3, rfl, rfl, Rp_l, R46, (((hE10.trans hle31).trans hle39).trans hle45), (S.drop _ (.cons _ (.cons_cons _ (.refl _))))⟩⟩
        · refine WP.condF rfl hc32 ?_
          refine WP.skip ?_
          refine WP.region ?_
          refine WL.valw (R.mv (v := (int i_8)) h9) ?_
          refine WL.valw (R.add rfl rfl) ?_
          refine WL.valw (R.as (v := (int (wr (i_8 + 1)))) rfl) ?_
          refine WL.nil ?_
          obtain rfl := Option.some.inj hy18
          exact ⟨rfl, ⟨H30, v5, h2, h3, h7, rfl, Rp_l, R6, (hE10.trans hle31), S⟩⟩
      · refine WP.condF rfl hc22 ?_
        refine WP.exit ?_
        obtain rfl := Option.some.inj hy18
        obtain rfl := hy19
        exact ⟨H1, v5, h7, R6, hE10, S⟩
  · rintro f w ⟨H11, v13, h15, R14, hE16, S⟩
    refine WP.seq ?_
    refine WP.region ?_
    refine WL.valw (R.mv (v := v13) h15) ?_
    refine WL.valw (R.as (v := v13) rfl) ?_
    refine WL.nil ?_
    obtain rfl := Option.some.inj h
    have S3 := S
    have S3 := S3.front 0 rfl
    replace S3 : St w0 H0 _ H11 (.row v13 53 2 out_12.length :: L2) := S3
    replace S3 : St w0 H0 _ H11 (.row v13 53 2 out_12.length :: L2) := S3.drop _ (.cons_cons _ (.refl _))
    refine WP.ret (OutS.one (L' := [.row v13 53 2 out_12.length]) rfl hE16 S3 rfl ?_)
    exact ⟨_, rfl, rfl, R14⟩
set_option maxRecDepth 10000 in
set_option maxHeartbeats 4000000 in
theorem ref26_response_ok {w0 : World} {H0 : Hp} (hw : Holds w0 H0) (hG : Tryz.Gl w0) (p_e : GEntry) (p_age : Int) (p_name : Str) {vp_e0 : Value} {vp_e1 : Value} {vp_e2 : Value} {vp_e4 : Value} (Rp_e0 : Sl (α := (List Str)) H0 vp_e0 p_e.fKeys) (Rp_e1 : Sl (α := Str) H0 vp_e1 p_e.fVary) (Rp_e2 : Sl (α := Str) H0 vp_e2 p_e.fSnapshot) (Rp_e4 : Sl (α := GField) H0 vp_e4 p_e.fFields) {r : GResponse} (h : ref26_response p_e p_age p_name = some r) :
    Con Tryz.prog 33 [(agg [vp_e0, vp_e1, vp_e2, (str p_e.fReason), vp_e4, (str p_e.fBody), (int p_e.fRequested), (int p_e.fReceived)]), (int p_age), (str p_name)] w0 H0 (fun H' v => ∃ u1 : Value, v = (agg [(int r.fMinor), (int r.fStatus), (str r.fReason), u1, (str r.fBody)]) ∧ Sl (α := GField) H' u1 r.fFields) := by
  refine Con.mk (N := 24) Tryz.func33 rfl rfl (by kernel_rfl) rfl ?_
  have S := St.start hw
  refine WP.seq ?_
  refine WP.region ?_
  refine W.box [vp_e0, vp_e1, vp_e2, (str p_e.fReason), vp_e4, (str p_e.fBody), (int p_e.fRequested), (int p_e.fReceived)] S rfl rfl ?_
  intro b1 w2 S
  refine W.alloc [(int 0), (int 0), (str []), (.slice none 0 0), (str [])] S zer30 ?_
  intro b3 w4 S
  refine WL.nil ?_
  refine WP.seq ?_
  refine WP.region ?_
  refine WL.valw (R.fieldB rfl fld26_4) ?_
  refine WL.valw (R.loadB (i := 1) (v := vp_e4) S rfl rfl lay24 rfl) ?_
  obtain ⟨r5, hr5, h⟩ := bindE h
  refine W.callS rfl (ref01_Remove_okR hG p_e.fFields [65, 103, 101] S Rp_e4 hr5) ?_
  rintro v6 w7 H8 L12 hle9 S ⟨_, rfl, rfl, R11⟩
  replace S : St w0 H0 _ H8 [.row v6 53 2 r5.length, .box b3 30 [(int 0), (int 0), (str []), (.slice none 0 0), (str [])], .box b1 26 [vp_e0, vp_e1, vp_e2, (str p_e.fReason), vp_e4, (str p_e.fBody), (int p_e.fRequested), (int p_e.fReceived)]] := S
  have Rp_e0 := Sl.mono Rp_e0 hle9
  have Rp_e1 := Sl.mono Rp_e1 hle9
  have Rp_e2 := Sl.mono Rp_e2 hle9
  have Rp_e4 := Sl.mono Rp_e4 hle9
  refine WL.valw (R.mv (v := (int p_age)) rfl) ?_
  obtain ⟨r13, hr13, h⟩ := bindE h
  refine W.call S rfl (ref01_Decimal_ok S.holds (hG.post S.post) p_age hr13) ?_
  rintro v14 w15 H16 hle17 S rfl
  have Rp_e0 := Sl.mono Rp_e0 hle17
  have Rp_e1 := Sl.mono Rp_e1 hle17
  have Rp_e2 := Sl.mono Rp_e2 hle17
  have Rp_e4 := Sl.mono Rp_e4 hle17
  have R11 := Sl.mono R11 hle17
  refine WL.valw (R.build [(0, (str [65, 103, 101])), (1, (str r13))] [(str [65, 103, 101]), (str r13)] bp53 zer53 rfl rfl) ?_
  refine W.bslice (α := GField) [(agg [(str [65, 103, 101]), (str r13)])] ([(⟨[65, 103, 101], r13⟩ : GField)] : List GField) S el24 rfl rfl rfl (by decide) (Go.Eng.encS ⟨rfl, rfl⟩ enc0) ?_
  intro u18 w19 H20 hle21 R22 S
  have Rp_e0 := Sl.mono Rp_e0 hle21
  have Rp_e1 := Sl.mono Rp_e1 hle21
  have Rp_e2 := Sl.mono Rp_e2 hle21
  have Rp_e4 := Sl.mono Rp_e4 hle21
  have R11 := Sl.mono R11 hle21
  obtain ⟨l23, hl23, h⟩ := bindE h
  refine W.app (α := GField) (i := 1) S el24 rfl rfl rfl R11 R22 hl23 ?_
  intro v24 w25 H26 hle27 R28 S
  have Rp_e0 := Sl.mono Rp_e0 hle27
  have Rp_e1 := Sl.mono Rp_e1 hle27
  have Rp_e2 := Sl.mono Rp_e2 hle27
  have Rp_e4 := Sl.mono Rp_e4 hle27
  have R11 := Sl.mono R11 hle27
  have R22 := Sl.mono R22 hle27
  refine WL.valw (R.as (v := v24) rfl) ?_
  refine WL.nil ?_
  refine WP.seq ?_
  obtain ⟨r29, hr29, h⟩ := bindE h
  refine WP.cut (fun f w => ∃ (H36 : Hp) (v38 : Value), f 6 = (ptr b3 0) ∧ Sl (α := GField) H36 v38 r29 ∧ St w0 H0 w H36 [.box b3 30 [(int 1), (int 200), (str p_e.fReason), v38, (str p_e.fBody)]]) ?_ ?_
  · refine WP.drawC (Cl w0 H0 H26 [.box b1 26 [vp_e0, vp_e1, vp_e2, (str p_e.fReason), vp_e4, (str p_e.fBody), (int p_e.fRequested), (int p_e.fReceived)]]) (by kernel_rfl) 9 rfl #[false, false, false, false, false, false, false, false, false] rfl ?_
    have S := S.drew
    refine WC.take (i := 0) #[true, false, false, false, false, false, false, false, false] rfl (by kernel_rfl) (by kernel_rfl) (by kernel_rfl) rfl (fun _ _ => (R.fieldB rfl fld26_3)) ?_
    refine WC.take (i := 1) #[true, true, false, false, false, false, false, false, false] rfl (by kernel_rfl) (by kernel_rfl) (by kernel_rfl) rfl (fun w hw => by obtain ⟨_, hq, S⟩ := hw; exact (R.loadB (i := 0) (v := (str p_e.fReason)) S rfl rfl lay9 rfl)) ?_
    refine WC.take (i := 2) #[true, true, true, false, false, false, false, false, false] rfl (by kernel_rfl) (by kernel_rfl) (by kernel_rfl) rfl (fun _ _ => (R.mv (v := v24) rfl)) ?_
    refine WC.take (i := 3) #[true, true, true, true, false, false, false, false, false] rfl (by kernel_rfl) (by kernel_rfl) (by kernel_rfl) rfl (fun _ _ => (R.mv (v := (str p_name)) rfl)) ?_
    refine WC.take (i := 5) #[true, true, true, true, false, true, false, false, false] rfl (by kernel_rfl) (by kernel_rfl) (by kernel_rfl) rfl (fun _ _ => (R.fieldB rfl fld26_5)) ?_
    refine WC.take (i := 6) #[true, true, true, true, false, true, true, false, false] rfl (by kernel_rfl) (by kernel_rfl) (by kernel_rfl) rfl (fun w hw => by obtain ⟨_, hq, S⟩ := hw; exact (R.loadB (i := 0) (v := (str p_e.fBody)) S rfl rfl lay9 rfl)) ?_
    refine WC.next (rs := [4]) ⟨H26, (Hp.le.refl _), S.drop _ (.cons _ (.cons _ (.cons _ (.cons_cons _ .slnil))))⟩ (by kernel_rfl) (List.cons_ne_nil _ _) (all1 ?_)
    refine Nxt.mk (o := _) #[true, true, true, true, true, true, true, false, false] rfl rfl ?_
    refine W.call S rfl (ref19_Via_ok S.holds (hG.post S.post) l23 1 p_name R28 hr29) ?_
    rintro v40 w41 H42 hle43 S R44
    have Rp_e0 := Sl.mono Rp_e0 hle43
    have Rp_e1 := Sl.mono Rp_e1 hle43
    have Rp_e2 := Sl.mono Rp_e2 hle43
    have Rp_e4 := Sl.mono Rp_e4 hle43
    have R11 := Sl.mono R11 hle43
    have R22 := Sl.mono R22 hle43
    have R28 := Sl.mono R28 hle43
    refine WL.nil ?_
    refine WC.take (i := 7) #[true, true, true, true, true, true, true, true, false] rfl (by kernel_rfl) (by kernel_rfl) (by kernel_rfl) rfl (fun _ _ => (R.build [(0, (int 1)), (1, (int 200)), (2, (str p_e.fReason)), (3, v40), (4, (str p_e.fBody))] [(int 1), (int 200), (str p_e.fReason), v40, (str p_e.fBody)] bp30 zer30 (by kernel_rfl) (by obtain ⟨_, _, rfl, _⟩ := R44; rfl))) ?_
    refine WC.next (rs := [8]) ⟨H42, hle43, S.drop _ (.cons _ (.cons _ (.cons _ (.cons_cons _ .slnil))))⟩ (by kernel_rfl) (List.cons_ne_nil _ _) (all1 ?_)
    refine Nxt.mk (o := _) #[true, true, true, true, true, true, true, true, true] rfl rfl ?_
    refine W.store (i := 2) [(int 1), (int 200), (str p_e.fReason), v40, (str p_e.fBody)] S rfl rfl rfl lay30 rfl (AllOne.all (l := [(int 1), (int 200), (str p_e.fReason), v40, (str p_e.fBody)]) (.cons rfl (.cons rfl (.cons rfl (.cons (Sl.oneC R44) (.cons rfl .nil)))))) (Nat.le_of_ble_eq_true rfl) rfl ?_
    intro w45 S
    refine WL.nil ?_
    refine WC.done ⟨H42, hle43, S.drop _ (.cons _ (.cons _ (.cons _ (.cons_cons _ .slnil))))⟩ (by kernel_rfl) ?_
    have S3 := S
    replace S3 := S3.front 2 rfl
    replace S3 : St w0 H0 _ H42 [.box b3 30 [(int 1), (int 200), (str p_e.fReason), v40, (str p_e.fBody)], .row u18 53 2 ([(⟨[65, 103, 101], r13⟩ : GField)] : List GField).length, .row v24 53 2 l23.length, .box b1 26 [vp_e0, vp_e1, vp_e2, (str p_e.fReason), vp_e4, (str p_e.fBody), (int p_e.fRequested), (int p_e.fReceived)]] := S3
    replace S3 : St w0 H0 _ H42 [.box b3 30 [(int 1), (int 200), (str p_e.fReason), v40, (str p_e.fBody)]] := S3.drop _ (.cons_cons _ (.cons _ (.cons _ (.cons _ .slnil))))
    exact ⟨H42, v40, rfl, R44, S3⟩
  · rintro f w ⟨H36, v38, h37, R39, S⟩
    obtain rfl := Option.some.inj h
    refine WP.ret (Out.one rfl S (Res.cellB (i := 0) (cs := [(int 1), (int 200), (str p_e.fReason), v38, (str p_e.fBody)]) S h37 rfl lay30 rfl rfl) ?_)
    exact ⟨_, rfl, R39⟩
set_option maxRecDepth 10000 in
set_option maxHeartbeats 4000000 in
theorem ref26_Response_ok {w0 : World} {H0 : Hp} (hw : Holds w0 H0) (hG : Tryz.Gl w0) (p_e : GEntry) (p_now : Int) (p_name : Str) {vp_e0 : Value} {vp_e1 : Value} {vp_e2 : Value} {vp_e4 : Value} (Rp_e0 : Sl (α := (List Str)) H0 vp_e0 p_e.fKeys) (Rp_e1 : Sl (α := Str) H0 vp_e1 p_e.fVary) (Rp_e2 : Sl (α := Str) H0 vp_e2 p_e.fSnapshot) (Rp_e4 : Sl (α := GField) H0 vp_e4 p_e.fFields) {r : GResponse} (h : ref26_Response p_e p_now p_name = some r) :
    Con Tryz.prog 11 [(agg [vp_e0, vp_e1, vp_e2, (str p_e.fReason), vp_e4, (str p_e.fBody), (int p_e.fRequested), (int p_e.fReceived)]), (int p_now), (str p_name)] w0 H0 (fun H' v => ∃ u1 : Value, v = (agg [(int r.fMinor), (int r.fStatus), (str r.fReason), u1, (str r.fBody)]) ∧ Sl (α := GField) H' u1 r.fFields) := by
  refine Con.mk (N := 13) Tryz.func11 rfl rfl (by kernel_rfl) rfl ?_
  have S := St.start hw
  refine WP.seq ?_
  refine WP.region ?_
  refine W.box [vp_e0, vp_e1, vp_e2, (str p_e.fReason), vp_e4, (str p_e.fBody), (int p_e.fRequested), (int p_e.fReceived)] S rfl rfl ?_
  intro b1 w2 S
  refine W.alloc [(int 0), (int 0), (str []), (.slice none 0 0), (str [])] S zer30 ?_
  intro b3 w4 S
  refine WL.nil ?_
  refine WP.seq ?_
  refine WP.quietTail 5 S (by kernel_rfl) (by kernel_rfl) ?_
  refine WQ.val (fun w hw => by obtain ⟨_, hq, S⟩ := hw; exact (R.loadBN (i := 1) (vs := [vp_e0, vp_e1, vp_e2, (str p_e.fReason), vp_e4, (str p_e.fBody), (int p_e.fRequested), (int p_e.fReceived)]) S rfl rfl lay26 rfl rfl)) ?_
  refine WQ.val (fun w hw => by obtain ⟨_, hq, S⟩ := hw; exact (R.loadBN (i := 1) (vs := [vp_e0, vp_e1, vp_e2, (str p_e.fReason), vp_e4, (str p_e.fBody), (int p_e.fRequested), (int p_e.fReceived)]) S rfl rfl lay26 rfl rfl)) ?_
  refine WQ.val (fun _ _ => (R.mv (v := (int p_now)) rfl)) ?_
  obtain ⟨r8, hr8, h⟩ := bindE h
  refine WQ.call (v := (int r8)) rfl (fun w H' hq S => ref26_Age_ok S.holds (hG.post S.post) p_e p_now (Sl.mono Rp_e0 hq) (Sl.mono Rp_e1 hq) (Sl.mono Rp_e2 hq) (Sl.mono Rp_e4 hq) hr8) ?_
  refine WQ.val (fun _ _ => (R.mv (v := (str p_name)) rfl)) ?_
  refine WQ.nil ?_
  intro w5 H6 hle7 S
  have Rp_e0 := Sl.mono Rp_e0 hle7
  have Rp_e1 := Sl.mono Rp_e1 hle7
  have Rp_e2 := Sl.mono Rp_e2 hle7
  have Rp_e4 := Sl.mono Rp_e4 hle7
  obtain ⟨r13, hr13, h⟩ := bindE h
  refine W.call S rfl (ref26_response_ok S.holds (hG.post S.post) p_e r8 p_name Rp_e0 Rp_e1 Rp_e2 Rp_e4 hr13) ?_
  rintro v14 w15 H16 hle17 S ⟨u18, rfl, R19⟩
  have Rp_e0 := Sl.mono Rp_e0 hle17
  have Rp_e1 := Sl.mono Rp_e1 hle17
  have Rp_e2 := Sl.mono Rp_e2 hle17
  have Rp_e4 := Sl.mono Rp_e4 hle17
  refine W.store (i := 0) [(int r13.fMinor), (int r13.fStatus), (str r13.fReason), u18, (str r13.fBody)] S rfl rfl rfl lay30 rfl (AllOne.all (l := [(int r13.fMinor), (int r13.fStatus), (str r13.fReason), u18, (str r13.fBody)]) (.cons rfl (.cons rfl (.cons rfl (.cons (Sl.oneC R19) (.cons rfl .nil)))))) (Nat.le_of_ble_eq_true rfl) rfl ?_
  intro w20 S
  refine WL.nil ?_
  obtain rfl := Option.some.inj h
  refine WP.ret (Out.one rfl S (Res.cellB (i := 0) (cs := [(int r13.fMinor), (int r13.fStatus), (str r13.fReason), u18, (str r13.fBody)]) S rfl rfl lay30 rfl rfl) ?_)
  exact ⟨_, rfl, R19⟩
end Go.Proofs
