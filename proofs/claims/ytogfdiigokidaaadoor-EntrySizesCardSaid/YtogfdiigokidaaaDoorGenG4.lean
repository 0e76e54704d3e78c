/- A part of the proof of laws of the seat: written by program over the translation. -/
import Derived.Test.YtogfdiigokidaaaDoorGenG3
namespace Go.Proofs
open Go.Eng Go.Eng.Pure
set_option linter.unusedVariables false
set_option maxRecDepth 10000 in
set_option maxHeartbeats 4000000 in
theorem ref19_ParseDate_ok {w0 : World} {H0 : Hp} (hw : Holds w0 H0) (hG : Tryd.Gl w0) (p_ppend : Str) {r : (Int × Bool)} (h : ref19_ParseDate p_ppend = some r) :
    Con Tryd.prog 47 [(str p_ppend)] w0 H0 (fun H' v => v = (.tuple ⟨[(int r.1), (boo r.2)]⟩)) := by
  refine Con.mk (N := 156) Tryd.func47 rfl rfl (by kernel_rfl) rfl ?_
  have S := St.start hw
  refine WP.seq ?_
  refine WP.region ?_
  refine WL.valw (R.as (v := (int 0)) rfl) ?_
  refine WL.valw (R.as (v := (boo false)) rfl) ?_
  refine WL.nil ?_
  refine WP.seq ?_
  refine WP.seq ?_
  refine WP.region ?_
  refine WL.valw (R.mv (v := (str p_ppend)) rfl) ?_
  refine WL.valw (R.lenS (a := p_ppend) rfl Tryd.underlying9) ?_
  refine WL.valw (R.neq rfl rfl) ?_
  refine WL.valw (R.mv (v := (boo ((p_ppend.length : Int) != 29))) rfl) ?_
  obtain ⟨b4, hg2, h⟩ := bindE h
  refine WL.grp 4 [21, 22, 23] 24 (boo b4) ?_ ?_
  · rcases boolE ((p_ppend.length : Int) != 29) with hb1 | hb1
    · replace hg2 := condT hg2 hb1
      refine WL.gno rfl rfl hb1 ?_
      refine WL.gno rfl rfl hb1 ?_
      refine WL.gno rfl rfl hb1 ?_
      refine WL.valw (R.pickT rfl hb1 rfl) ?_
      exact WL.nil ⟨(congrArg boo (Option.some.inj hg2)), (by repeat (first | refine agree_upd rfl ?_ | refine agree_upds' rfl ?_ | exact agree_refl)), rfl⟩
    · replace hg2 := condF hg2 hb1
      refine WL.gyes rfl rfl hb1 ?_
      refine WL.valw (R.mv (v := (str p_ppend)) rfl) ?_
      refine WL.gyes rfl rfl hb1 ?_
      obtain ⟨s3, hs3, hg2⟩ := bindE hg2
      refine WL.valw (R.subS rfl rfl rfl Tryd.underlying9 hs3) ?_
      refine WL.gyes rfl rfl hb1 ?_
      refine WL.valw (R.neqS (a := s3) (b := [44, 32]) rfl rfl) ?_
      refine WL.valw (R.pickF rfl hb1 rfl) ?_
      exact WL.nil ⟨(congrArg boo (Option.some.inj hg2)), (by repeat (first | refine agree_upd rfl ?_ | refine agree_upds' rfl ?_ | exact agree_refl)), rfl⟩
  · intro us
    refine WL.valw (R.mv (v := (boo b4)) rfl) ?_
    obtain ⟨b8, hg6, h⟩ := bindE h
    refine WL.grp 4 [26, 27, 28] 29 (boo b8) ?_ ?_
    · rcases boolE b4 with hb5 | hb5
      · replace hg6 := condT hg6 hb5
        refine WL.gno rfl rfl hb5 ?_
        refine WL.gno rfl rfl hb5 ?_
        refine WL.gno rfl rfl hb5 ?_
        refine WL.valw (R.pickT rfl hb5 rfl) ?_
        exact WL.nil ⟨(congrArg boo (Option.some.inj hg6)), (by repeat (first | refine agree_upd rfl ?_ | refine agree_upds' rfl ?_ | exact agree_refl)), rfl⟩
      · replace hg6 := condF hg6 hb5
        refine WL.gyes rfl rfl hb5 ?_
        refine WL.valw (R.mv (v := (str p_ppend)) rfl) ?_
        refine WL.gyes rfl rfl hb5 ?_
        obtain ⟨c7, hc7, hg6⟩ := bindE hg6
        refine WL.valw (R.idxS rfl rfl Tryd.underlying9 hc7) ?_
        refine WL.gyes rfl rfl hb5 ?_
        refine WL.valw (R.neq8 (a := c7) (b := 32) rfl rfl) ?_
        refine WL.valw (R.pickF rfl hb5 rfl) ?_
        exact WL.nil ⟨(congrArg boo (Option.some.inj hg6)), (by repeat (first | refine agree_upd rfl ?_ | refine agree_upds' rfl ?_ | exact agree_refl)), rfl⟩
    · intro us
      refine WL.valw (R.mv (v := (boo b8)) rfl) ?_
      obtain ⟨b12, hg10, h⟩ := bindE h
      refine WL.grp 4 [31, 32, 33] 34 (boo b12) ?_ ?_
      · rcases boolE b8 with hb9 | hb9
        · replace hg10 := condT hg10 hb9
          refine WL.gno rfl rfl hb9 ?_
          refine WL.gno rfl rfl hb9 ?_
          refine WL.gno rfl rfl hb9 ?_
          refine WL.valw (R.pickT rfl hb9 rfl) ?_
          exact WL.nil ⟨(congrArg boo (Option.some.inj hg10)), (by repeat (first | refine agree_upd rfl ?_ | refine agree_upds' rfl ?_ | exact agree_refl)), rfl⟩
        · replace hg10 := condF hg10 hb9
          refine WL.gyes rfl rfl hb9 ?_
          refine WL.valw (R.mv (v := (str p_ppend)) rfl) ?_
          refine WL.gyes rfl rfl hb9 ?_
          obtain ⟨c11, hc11, hg10⟩ := bindE hg10
          refine WL.valw (R.idxS rfl rfl Tryd.underlying9 hc11) ?_
          refine WL.gyes rfl rfl hb9 ?_
          refine WL.valw (R.neq8 (a := c11) (b := 32) rfl rfl) ?_
          refine WL.valw (R.pickF rfl hb9 rfl) ?_
          exact WL.nil ⟨(congrArg boo (Option.some.inj hg10)), (by repeat (first | refine agree_upd rfl ?_ | refine agree_upds' rfl ?_ | exact agree_refl)), rfl⟩
      · intro us
        refine WL.valw (R.mv (v := (boo b12)) rfl) ?_
        obtain ⟨b16, hg14, h⟩ := bindE h
        refine WL.grp 4 [36, 37, 38] 39 (boo b16) ?_ ?_
        · rcases boolE b12 with hb13 | hb13
          · replace hg14 := condT hg14 hb13
            refine WL.gno rfl rfl hb13 ?_
            refine WL.gno rfl rfl hb13 ?_
            refine WL.gno rfl rfl hb13 ?_
            refine WL.valw (R.pickT rfl hb13 rfl) ?_
            exact WL.nil ⟨(congrArg boo (Option.some.inj hg14)), (by repeat (first | refine agree_upd rfl ?_ | refine agree_upds' rfl ?_ | exact agree_refl)), rfl⟩
          · replace hg14 := condF hg14 hb13
            refine WL.gyes rfl rfl hb13 ?_
            refine WL.valw (R.mv (v := (str p_ppend)) rfl) ?_
            refine WL.gyes rfl rfl hb13 ?_
            obtain ⟨c15, hc15, hg14⟩ := bindE hg14
            refine WL.valw (R.idxS rfl rfl Tryd.underlying9 hc15) ?_
            refine WL.gyes rfl rfl hb13 ?_
            refine WL.valw (R.neq8 (a := c15) (b := 32) rfl rfl) ?_
            refine WL.valw (R.pickF rfl hb13 rfl) ?_
            exact WL.nil ⟨(congrArg boo (Option.some.inj hg14)), (by repeat (first | refine agree_upd rfl ?_ | refine agree_upds' rfl ?_ | exact agree_refl)), rfl⟩
        · intro us
          refine WL.valw (R.mv (v := (boo b16)) rfl) ?_
          obtain ⟨b20, hg18, h⟩ := bindE h
          refine WL.grp 4 [41, 42, 43] 44 (boo b20) ?_ ?_
          · rcases boolE b16 with hb17 | hb17
            · replace hg18 := condT hg18 hb17
              refine WL.gno rfl rfl hb17 ?_
              refine WL.gno rfl rfl hb17 ?_
              refine WL.gno rfl rfl hb17 ?_
              refine WL.valw (R.pickT rfl hb17 rfl) ?_
              exact WL.nil ⟨(congrArg boo (Option.some.inj hg18)), (by repeat (first | refine agree_upd rfl ?_ | refine agree_upds' rfl ?_ | exact agree_refl)), rfl⟩
            · replace hg18 := condF hg18 hb17
              refine WL.gyes rfl rfl hb17 ?_
              refine WL.valw (R.mv (v := (str p_ppend)) rfl) ?_
              refine WL.gyes rfl rfl hb17 ?_
              obtain ⟨c19, hc19, hg18⟩ := bindE hg18
              refine WL.valw (R.idxS rfl rfl Tryd.underlying9 hc19) ?_
              refine WL.gyes rfl rfl hb17 ?_
              refine WL.valw (R.neq8 (a := c19) (b := 58) rfl rfl) ?_
              refine WL.valw (R.pickF rfl hb17 rfl) ?_
              exact WL.nil ⟨(congrArg boo (Option.some.inj hg18)), (by repeat (first | refine agree_upd rfl ?_ | refine agree_upds' rfl ?_ | exact agree_refl)), rfl⟩
          · intro us
            refine WL.valw (R.mv (v := (boo b20)) rfl) ?_
            obtain ⟨b24, hg22, h⟩ := bindE h
            refine WL.grp 4 [46, 47, 48] 49 (boo b24) ?_ ?_
            · rcases boolE b20 with hb21 | hb21
              · replace hg22 := condT hg22 hb21
                refine WL.gno rfl rfl hb21 ?_
                refine WL.gno rfl rfl hb21 ?_
                refine WL.gno rfl rfl hb21 ?_
                refine WL.valw (R.pickT rfl hb21 rfl) ?_
                exact WL.nil ⟨(congrArg boo (Option.some.inj hg22)), (by repeat (first | refine agree_upd rfl ?_ | refine agree_upds' rfl ?_ | exact agree_refl)), rfl⟩
              · replace hg22 := condF hg22 hb21
                refine WL.gyes rfl rfl hb21 ?_
                refine WL.valw (R.mv (v := (str p_ppend)) rfl) ?_
                refine WL.gyes rfl rfl hb21 ?_
                obtain ⟨c23, hc23, hg22⟩ := bindE hg22
                refine WL.valw (R.idxS rfl rfl Tryd.underlying9 hc23) ?_
                refine WL.gyes rfl rfl hb21 ?_
                refine WL.valw (R.neq8 (a := c23) (b := 58) rfl rfl) ?_
                refine WL.valw (R.pickF rfl hb21 rfl) ?_
                exact WL.nil ⟨(congrArg boo (Option.some.inj hg22)), (by repeat (first | refine agree_upd rfl ?_ | refine agree_upds' rfl ?_ | exact agree_refl)), rfl⟩
            · intro us
              refine WL.valw (R.mv (v := (boo b24)) rfl) ?_
              obtain ⟨b28, hg26, h⟩ := bindE h
              refine WL.grp 4 [51, 52, 53] 54 (boo b28) ?_ ?_
              · rcases boolE b24 with hb25 | hb25
                · replace hg26 := condT hg26 hb25
                  refine WL.gno rfl rfl hb25 ?_
                  refine WL.gno rfl rfl hb25 ?_
                  refine WL.gno rfl rfl hb25 ?_
                  refine WL.valw (R.pickT rfl hb25 rfl) ?_
                  exact WL.nil ⟨(congrArg boo (Option.some.inj hg26)), (by repeat (first | refine agree_upd rfl ?_ | refine agree_upds' rfl ?_ | exact agree_refl)), rfl⟩
                · replace hg26 := condF hg26 hb25
                  refine WL.gyes rfl rfl hb25 ?_
                  refine WL.valw (R.mv (v := (str p_ppend)) rfl) ?_
                  refine WL.gyes rfl rfl hb25 ?_
                  obtain ⟨s27, hs27, hg26⟩ := bindE hg26
                  refine WL.valw (R.subSlo rfl rfl Tryd.underlying9 hs27) ?_
                  refine WL.gyes rfl rfl hb25 ?_
                  refine WL.valw (R.neqS (a := s27) (b := [32, 71, 77, 84]) rfl rfl) ?_
                  refine WL.valw (R.pickF rfl hb25 rfl) ?_
                  exact WL.nil ⟨(congrArg boo (Option.some.inj hg26)), (by repeat (first | refine agree_upd rfl ?_ | refine agree_upds' rfl ?_ | exact agree_refl)), rfl⟩
              · intro us
                refine WL.nil ?_
                rcases condE h with ⟨hc29, h⟩ | ⟨hc29, h⟩
                · refine WP.condT rfl hc29 ?_
                  refine WP.seq ?_
                  refine WP.region ?_
                  refine WL.valw (R.as (v := (int 0)) rfl) ?_
                  refine WL.valw (R.as (v := (boo false)) rfl) ?_
                  refine WL.nil ?_
                  obtain rfl := Option.some.inj h
                  refine WP.ret (Out.two rfl S rfl rfl ?_)
                  exact rfl
                · refine WP.condF rfl hc29 ?_
                  refine WP.skip ?_
                  refine WP.seq ?_
                  refine WP.region ?_
                  refine WL.valw (R.mv (v := (str p_ppend)) rfl) ?_
                  obtain ⟨r30, hr30, h⟩ := bindE h
                  refine W.call S rfl (ref19_digits_ok S.holds (hG.post S.post) p_ppend 5 2 hr30) ?_
                  rintro v31 w32 H33 hle34 S rfl
                  refine WL.valw (R.mv (v := (.tuple ⟨[(int r30.1), (boo r30.2)]⟩)) rfl) ?_
                  refine WL.valw (R.ext rfl rfl) ?_
                  refine WL.valw (R.ext rfl rfl) ?_
                  refine WL.valw (R.as (v := (int r30.1)) rfl) ?_
                  refine WL.valw (R.as (v := (boo r30.2)) rfl) ?_
                  refine WL.nil ?_
                  refine WP.seq ?_
                  refine WP.region ?_
                  refine WL.valw (R.mv (v := (str p_ppend)) rfl) ?_
                  obtain ⟨r35, hr35, h⟩ := bindE h
                  refine W.call S rfl (ref19_digits_ok S.holds (hG.post S.post) p_ppend 12 4 hr35) ?_
                  rintro v36 w37 H38 hle39 S rfl
                  refine WL.valw (R.mv (v := (.tuple ⟨[(int r35.1), (boo r35.2)]⟩)) rfl) ?_
                  refine WL.valw (R.ext rfl rfl) ?_
                  refine WL.valw (R.ext rfl rfl) ?_
                  refine WL.valw (R.as (v := (int r35.1)) rfl) ?_
                  refine WL.valw (R.as (v := (boo r35.2)) rfl) ?_
                  refine WL.nil ?_
                  refine WP.seq ?_
                  refine WP.region ?_
                  refine WL.valw (R.mv (v := (str p_ppend)) rfl) ?_
                  obtain ⟨r40, hr40, h⟩ := bindE h
                  refine W.call S rfl (ref19_digits_ok S.holds (hG.post S.post) p_ppend 17 2 hr40) ?_
                  rintro v41 w42 H43 hle44 S rfl
                  refine WL.valw (R.mv (v := (.tuple ⟨[(int r40.1), (boo r40.2)]⟩)) rfl) ?_
                  refine WL.valw (R.ext rfl rfl) ?_
                  refine WL.valw (R.ext rfl rfl) ?_
                  refine WL.valw (R.as (v := (int r40.1)) rfl) ?_
                  refine WL.valw (R.as (v := (boo r40.2)) rfl) ?_
                  refine WL.nil ?_
                  refine WP.seq ?_
                  refine WP.region ?_
                  refine WL.valw (R.mv (v := (str p_ppend)) rfl) ?_
                  obtain ⟨r45, hr45, h⟩ := bindE h
                  refine W.call S rfl (ref19_digits_ok S.holds (hG.post S.post) p_ppend 20 2 hr45) ?_
                  rintro v46 w47 H48 hle49 S rfl
                  refine WL.valw (R.mv (v := (.tuple ⟨[(int r45.1), (boo r45.2)]⟩)) rfl) ?_
                  refine WL.valw (R.ext rfl rfl) ?_
                  refine WL.valw (R.ext rfl rfl) ?_
                  refine WL.valw (R.as (v := (int r45.1)) rfl) ?_
                  refine WL.valw (R.as (v := (boo r45.2)) rfl) ?_
                  refine WL.nil ?_
                  refine WP.seq ?_
                  refine WP.region ?_
                  refine WL.valw (R.mv (v := (str p_ppend)) rfl) ?_
                  obtain ⟨r50, hr50, h⟩ := bindE h
                  refine W.call S rfl (ref19_digits_ok S.holds (hG.post S.post) p_ppend 23 2 hr50) ?_
                  rintro v51 w52 H53 hle54 S rfl
                  refine WL.valw (R.mv (v := (.tuple ⟨[(int r50.1), (boo r50.2)]⟩)) rfl) ?_
                  refine WL.valw (R.ext rfl rfl) ?_
                  refine WL.valw (R.ext rfl rfl) ?_
                  refine WL.valw (R.as (v := (int r50.1)) rfl) ?_
                  refine WL.valw (R.as (v := (boo r50.2)) rfl) ?_
                  refine WL.nil ?_
                  refine WP.seq ?_
                  refine WP.region ?_
                  refine WL.valw (R.as (v := (int 0)) rfl) ?_
                  refine WL.nil ?_
                  refine WP.seq ?_
                  refine WP.seq ?_
                  refine WP.region ?_
                  refine WL.valw (R.as (v := (int 0)) rfl) ?_
                  refine WL.nil ?_
                  obtain ⟨y_83, hr89, h⟩ := bindE h
                  refine WP.cut (fun f w => ∃ (H71 : Hp), f 0 = (str p_ppend) ∧ f 4 = (int r30.1) ∧ f 5 = (boo r30.2) ∧ f 6 = (int r35.1) ∧ f 7 = (boo r35.2) ∧ f 8 = (int r40.1) ∧ f 9 = (boo r40.2) ∧ f 10 = (int r45.1) ∧ f 11 = (boo r45.2) ∧ f 12 = (int r50.1) ∧ f 13 = (boo r50.2) ∧ f 14 = (int y_83) ∧ St w0 H0 w H71 []) ?_ ?_
                  · refine WP.block ?_
                    refine WP.loopM (ref19_ParseDate_L0 p_ppend) (fun s f w => match s with | (y_67, y_69) => ∃ (H55 : Hp), f 0 = (str p_ppend) ∧ f 4 = (int r30.1) ∧ f 5 = (boo r30.2) ∧ f 6 = (int r35.1) ∧ f 7 = (boo r35.2) ∧ f 8 = (int r40.1) ∧ f 9 = (boo r40.2) ∧ f 10 = (int r45.1) ∧ f 11 = (boo r45.2) ∧ f 12 = (int r50.1) ∧ f 13 = (boo r50.2) ∧ f 14 = (int y_67) ∧ f 15 = (int y_69) ∧ St w0 H0 w H55 []) (0, 0) y_83 hr89 ?_ ?_
                    · exact ⟨H53, rfl, rfl, rfl, rfl, rfl, rfl, rfl, rfl, rfl, rfl, rfl, rfl, rfl, S⟩
                    · intro s f w hI y85 hy86 hy87
                      obtain ⟨y_67, y_69⟩ := s
                      obtain ⟨H55, h56, h57, h58, h59, h60, h61, h62, h63, h64, h65, h66, h68, h70, S⟩ := hI
                      refine WP.seq ?_
                      refine WP.seq ?_
                      refine WP.region ?_
                      refine WL.valw (R.mv (v := (int y_69)) h70) ?_
                      refine WL.valw (R.lss rfl rfl) ?_
                      refine WL.nil ?_
                      rcases condE hy86 with ⟨hc90, hy86⟩ | ⟨hc90, hy86⟩
                      · refine WP.condT rfl hc90 ?_
                        refine WP.skip ?_
                        refine WP.seq ?_
                        refine WP.block ?_
                        refine WP.seq ?_
                        refine WP.quiet S (by kernel_rfl) (by kernel_rfl) ?_
                        refine WQ.val (fun _ _ => (R.mv (v := (int y_69)) h70)) ?_
                        refine WQ.val (fun _ _ => (R.mul rfl rfl)) ?_
                        refine WQ.val (fun _ _ => (R.mv (v := (int y_69)) h70)) ?_
                        refine WQ.val (fun _ _ => (R.mul rfl rfl)) ?_
                        refine WQ.val (fun _ _ => (R.add rfl rfl)) ?_
                        obtain ⟨s94, hs94, hy86⟩ := bindE hy86
                        refine WQ.val (fun _ _ => (R.subS rfl rfl rfl Tryd.underlying9 hs94)) ?_
                        refine WQ.val (fun _ _ => (R.mv (v := (str p_ppend)) h56)) ?_
                        obtain ⟨s95, hs95, hy86⟩ := bindE hy86
                        refine WQ.val (fun _ _ => (R.subS rfl rfl rfl Tryd.underlying9 hs95)) ?_
                        refine WQ.val (fun _ _ => (R.eqlS (a := s94) (b := s95) rfl rfl)) ?_
                        refine WQ.nil ?_
                        intro w91 H92 hle93 S
                        rcases condE hy86 with ⟨hc96, hy86⟩ | ⟨hc96, hy86⟩
                        · refine WP.condT rfl hc96 ?_
                          refine WP.region ?_
                          refine WL.valw (R.mv (v := (int y_69)) h70) ?_
                          refine WL.valw (R.add rfl rfl) ?_
                          refine WL.valw (R.as (v := (int (wr (y_69 + 1)))) rfl) ?_
                          refine WL.nil ?_
                          refine WP.region ?_
                          refine WL.valw (R.mv (v := (int y_69)) h70) ?_
                          refine WL.valw (R.add rfl rfl) ?_
                          refine WL.valw (R.as (v := (int (wr (y_69 + 1)))) rfl) ?_
                          refine WL.nil ?_
                          obtain rfl := Option.some.inj hy86
                          exact ⟨rfl, ⟨H92, h56, h57, h58, h59, h60, h61, h62, h63, h64, h65, h66, rfl, rfl, S⟩⟩
                        · refine WP.condF rfl hc96 ?_
                          refine WP.skip ?_
                          refine WP.region ?_
                          refine WL.valw (R.mv (v := (int y_69)) h70) ?_
                          refine WL.valw (R.add rfl rfl) ?_
                          refine WL.valw (R.as (v := (int (wr (y_69 + 1)))) rfl) ?_
                          refine WL.nil ?_
                          obtain rfl := Option.some.inj hy86
                          exact ⟨rfl, ⟨H92, h56, h57, h58, h59, h60, h61, h62, h63, h64, h65, h66, h68, rfl, S⟩⟩
                      · refine WP.condF rfl hc90 ?_
                        refine WP.exit ?_
                        obtain rfl := Option.some.inj hy86
                        obtain rfl := hy87
                        exact ⟨H55, h56, h57, h58, h59, h60, h61, h62, h63, h64, h65, h66, h68, S⟩
                  · rintro f w ⟨H71, h72, h73, h74, h75, h76, h77, h78, h79, h80, h81, h82, h84, S⟩
                    refine WP.seq ?_
                    refine WP.region ?_
                    refine WL.valw (R.mv (v := (int r35.1)) h75) ?_
                    refine WL.valw (R.mv (v := (int y_83)) h84) ?_
                    refine WL.valw (R.mv (v := (int r30.1)) h73) ?_
                    obtain ⟨r97, hr97, h⟩ := bindE h
                    refine W.call S rfl (ref19_Days_ok S.holds (hG.post S.post) r35.1 y_83 r30.1 hr97) ?_
                    rintro v98 w99 H100 hle101 S rfl
                    refine WL.valw (R.as (v := (int r97)) rfl) ?_
                    refine WL.nil ?_
                    refine WP.seq ?_
                    refine WP.seq ?_
                    refine WP.quiet S (by kernel_rfl) (by kernel_rfl) ?_
                    refine WQ.val (fun _ _ => (R.mv (v := (boo r30.2)) h74)) ?_
                    refine WQ.val (fun _ _ => (R.not rfl)) ?_
                    refine WQ.val (fun _ _ => (R.mv (v := (boo (!r30.2))) rfl)) ?_
                    refine WQ.grp 3 [102, 103] 104 (boo ((!r30.2) || (!r35.2))) ?_ ?_
                    · rcases boolE (!r30.2) with hb105 | hb105
                      · refine WQ.gno rfl rfl hb105 ?_
                        refine WQ.gno rfl rfl hb105 ?_
                        refine WQ.val (fun _ _ => (R.pickT rfl hb105 rfl)) ?_
                        exact WQ.nil ⟨(orT hb105), (by repeat (first | refine agree_upd rfl ?_ | refine agree_upds' rfl ?_ | exact agree_refl))⟩
                      · refine WQ.gyes rfl rfl hb105 ?_
                        refine WQ.val (fun _ _ => (R.mv (v := (boo r35.2)) h76)) ?_
                        refine WQ.gyes rfl rfl hb105 ?_
                        refine WQ.val (fun _ _ => (R.not rfl)) ?_
                        refine WQ.val (fun _ _ => (R.pickF rfl hb105 rfl)) ?_
                        exact WQ.nil ⟨(orF hb105), (by repeat (first | refine agree_upd rfl ?_ | refine agree_upds' rfl ?_ | exact agree_refl))⟩
                    · intro us
                      refine WQ.val (fun _ _ => (R.mv (v := (boo ((!r30.2) || (!r35.2)))) rfl)) ?_
                      refine WQ.grp 3 [106, 107] 108 (boo (((!r30.2) || (!r35.2)) || (!r40.2))) ?_ ?_
                      · rcases boolE ((!r30.2) || (!r35.2)) with hb107 | hb107
                        · refine WQ.gno rfl rfl hb107 ?_
                          refine WQ.gno rfl rfl hb107 ?_
                          refine WQ.val (fun _ _ => (R.pickT rfl hb107 rfl)) ?_
                          exact WQ.nil ⟨(orT hb107), (by repeat (first | refine agree_upd rfl ?_ | refine agree_upds' rfl ?_ | exact agree_refl))⟩
                        · refine WQ.gyes rfl rfl hb107 ?_
                          refine WQ.val (fun _ _ => (R.mv (v := (boo r40.2)) h78)) ?_
                          refine WQ.gyes rfl rfl hb107 ?_
                          refine WQ.val (fun _ _ => (R.not rfl)) ?_
                          refine WQ.val (fun _ _ => (R.pickF rfl hb107 rfl)) ?_
                          exact WQ.nil ⟨(orF hb107), (by repeat (first | refine agree_upd rfl ?_ | refine agree_upds' rfl ?_ | exact agree_refl))⟩
                      · intro us
                        refine WQ.val (fun _ _ => (R.mv (v := (boo (((!r30.2) || (!r35.2)) || (!r40.2)))) rfl)) ?_
                        refine WQ.grp 3 [110, 111] 112 (boo ((((!r30.2) || (!r35.2)) || (!r40.2)) || (!r45.2))) ?_ ?_
                        · rcases boolE (((!r30.2) || (!r35.2)) || (!r40.2)) with hb109 | hb109
                          · refine WQ.gno rfl rfl hb109 ?_
                            refine WQ.gno rfl rfl hb109 ?_
                            refine WQ.val (fun _ _ => (R.pickT rfl hb109 rfl)) ?_
                            exact WQ.nil ⟨(orT hb109), (by repeat (first | refine agree_upd rfl ?_ | refine agree_upds' rfl ?_ | exact agree_refl))⟩
                          · refine WQ.gyes rfl rfl hb109 ?_
                            refine WQ.val (fun _ _ => (R.mv (v := (boo r45.2)) h80)) ?_
                            refine WQ.gyes rfl rfl hb109 ?_
                            refine WQ.val (fun _ _ => (R.not rfl)) ?_
                            refine WQ.val (fun _ _ => (R.pickF rfl hb109 rfl)) ?_
                            exact WQ.nil ⟨(orF hb109), (by repeat (first | refine agree_upd rfl ?_ | refine agree_upds' rfl ?_ | exact agree_refl))⟩
                        · intro us
                          refine WQ.val (fun _ _ => (R.mv (v := (boo ((((!r30.2) || (!r35.2)) || (!r40.2)) || (!r45.2)))) rfl)) ?_
                          refine WQ.grp 3 [114, 115] 116 (boo (((((!r30.2) || (!r35.2)) || (!r40.2)) || (!r45.2)) || (!r50.2))) ?_ ?_
                          · rcases boolE ((((!r30.2) || (!r35.2)) || (!r40.2)) || (!r45.2)) with hb111 | hb111
                            · refine WQ.gno rfl rfl hb111 ?_
                              refine WQ.gno rfl rfl hb111 ?_
                              refine WQ.val (fun _ _ => (R.pickT rfl hb111 rfl)) ?_
                              exact WQ.nil ⟨(orT hb111), (by repeat (first | refine agree_upd rfl ?_ | refine agree_upds' rfl ?_ | exact agree_refl))⟩
                            · refine WQ.gyes rfl rfl hb111 ?_
                              refine WQ.val (fun _ _ => (R.mv (v := (boo r50.2)) h82)) ?_
                              refine WQ.gyes rfl rfl hb111 ?_
                              refine WQ.val (fun _ _ => (R.not rfl)) ?_
                              refine WQ.val (fun _ _ => (R.pickF rfl hb111 rfl)) ?_
                              exact WQ.nil ⟨(orF hb111), (by repeat (first | refine agree_upd rfl ?_ | refine agree_upds' rfl ?_ | exact agree_refl))⟩
                          · intro us
                            refine WQ.val (fun _ _ => (R.mv (v := (boo (((((!r30.2) || (!r35.2)) || (!r40.2)) || (!r45.2)) || (!r50.2)))) rfl)) ?_
                            refine WQ.grp 3 [118, 119] 120 (boo ((((((!r30.2) || (!r35.2)) || (!r40.2)) || (!r45.2)) || (!r50.2)) || (decide (r97 < 0)))) ?_ ?_
                            · rcases boolE (((((!r30.2) || (!r35.2)) || (!r40.2)) || (!r45.2)) || (!r50.2)) with hb113 | hb113
                              · refine WQ.gno rfl rfl hb113 ?_
                                refine WQ.gno rfl rfl hb113 ?_
                                refine WQ.val (fun _ _ => (R.pickT rfl hb113 rfl)) ?_
                                exact WQ.nil ⟨(orT hb113), (by repeat (first | refine agree_upd rfl ?_ | refine agree_upds' rfl ?_ | exact agree_refl))⟩
                              · refine WQ.gyes rfl rfl hb113 ?_
                                refine WQ.val (fun _ _ => (R.mv (v := (int r97)) rfl)) ?_
                                refine WQ.gyes rfl rfl hb113 ?_
                                refine WQ.val (fun _ _ => (R.lss rfl rfl)) ?_
                                refine WQ.val (fun _ _ => (R.pickF rfl hb113 rfl)) ?_
                                exact WQ.nil ⟨(orF hb113), (by repeat (first | refine agree_upd rfl ?_ | refine agree_upds' rfl ?_ | exact agree_refl))⟩
                            · intro us
                              refine WQ.val (fun _ _ => (R.mv (v := (boo ((((((!r30.2) || (!r35.2)) || (!r40.2)) || (!r45.2)) || (!r50.2)) || (decide (r97 < 0))))) rfl)) ?_
                              refine WQ.grp 3 [122, 123] 124 (boo (((((((!r30.2) || (!r35.2)) || (!r40.2)) || (!r45.2)) || (!r50.2)) || (decide (r97 < 0))) || (decide (23 < r40.1)))) ?_ ?_
                              · rcases boolE ((((((!r30.2) || (!r35.2)) || (!r40.2)) || (!r45.2)) || (!r50.2)) || (decide (r97 < 0))) with hb115 | hb115
                                · refine WQ.gno rfl rfl hb115 ?_
                                  refine WQ.gno rfl rfl hb115 ?_
                                  refine WQ.val (fun _ _ => (R.pickT rfl hb115 rfl)) ?_
                                  exact WQ.nil ⟨(orT hb115), (by repeat (first | refine agree_upd rfl ?_ | refine agree_upds' rfl ?_ | exact agree_refl))⟩
                                · refine WQ.gyes rfl rfl hb115 ?_
                                  refine WQ.val (fun _ _ => (R.mv (v := (int r40.1)) h77)) ?_
                                  refine WQ.gyes rfl rfl hb115 ?_
                                  refine WQ.val (fun _ _ => (R.gtr rfl rfl)) ?_
                                  refine WQ.val (fun _ _ => (R.pickF rfl hb115 rfl)) ?_
                                  exact WQ.nil ⟨(orF hb115), (by repeat (first | refine agree_upd rfl ?_ | refine agree_upds' rfl ?_ | exact agree_refl))⟩
                              · intro us
                                refine WQ.val (fun _ _ => (R.mv (v := (boo (((((((!r30.2) || (!r35.2)) || (!r40.2)) || (!r45.2)) || (!r50.2)) || (decide (r97 < 0))) || (decide (23 < r40.1))))) rfl)) ?_
                                refine WQ.grp 3 [126, 127] 128 (boo ((((((((!r30.2) || (!r35.2)) || (!r40.2)) || (!r45.2)) || (!r50.2)) || (decide (r97 < 0))) || (decide (23 < r40.1))) || (decide (59 < r45.1)))) ?_ ?_
                                · rcases boolE (((((((!r30.2) || (!r35.2)) || (!r40.2)) || (!r45.2)) || (!r50.2)) || (decide (r97 < 0))) || (decide (23 < r40.1))) with hb117 | hb117
                                  · refine WQ.gno rfl rfl hb117 ?_
                                    refine WQ.gno rfl rfl hb117 ?_
                                    refine WQ.val (fun _ _ => (R.pickT rfl hb117 rfl)) ?_
                                    exact WQ.nil ⟨(orT hb117), (by repeat (first | refine agree_upd rfl ?_ | refine agree_upds' rfl ?_ | exact agree_refl))⟩
                                  · refine WQ.gyes rfl rfl hb117 ?_
                                    refine WQ.val (fun _ _ => (R.mv (v := (int r45.1)) h79)) ?_
                                    refine WQ.gyes rfl rfl hb117 ?_
                                    refine WQ.val (fun _ _ => (R.gtr rfl rfl)) ?_
                                    refine WQ.val (fun _ _ => (R.pickF rfl hb117 rfl)) ?_
                                    exact WQ.nil ⟨(orF hb117), (by repeat (first | refine agree_upd rfl ?_ | refine agree_upds' rfl ?_ | exact agree_refl))⟩
                                · intro us
                                  refine WQ.val (fun _ _ => (R.mv (v := (boo ((((((((!r30.2) || (!r35.2)) || (!r40.2)) || (!r45.2)) || (!r50.2)) || (decide (r97 < 0))) || (decide (23 < r40.1))) || (decide (59 < r45.1))))) rfl)) ?_
                                  refine WQ.grp 3 [130, 131] 132 (boo (((((((((!r30.2) || (!r35.2)) || (!r40.2)) || (!r45.2)) || (!r50.2)) || (decide (r97 < 0))) || (decide (23 < r40.1))) || (decide (59 < r45.1))) || (decide (59 < r50.1)))) ?_ ?_
                                  · rcases boolE ((((((((!r30.2) || (!r35.2)) || (!r40.2)) || (!r45.2)) || (!r50.2)) || (decide (r97 < 0))) || (decide (23 < r40.1))) || (decide (59 < r45.1))) with hb119 | hb119
                                    · refine WQ.gno rfl rfl hb119 ?_
                                      refine WQ.gno rfl rfl hb119 ?_
                                      refine WQ.val (fun _ _ => (R.pickT rfl hb119 rfl)) ?_
                                      exact WQ.nil ⟨(orT hb119), (by repeat (first | refine agree_upd rfl ?_ | refine agree_upds' rfl ?_ | exact agree_refl))⟩
                                    · refine WQ.gyes rfl rfl hb119 ?_
                                      refine WQ.val (fun _ _ => (R.mv (v := (int r50.1)) h81)) ?_
                                      refine WQ.gyes rfl rfl hb119 ?_
                                      refine WQ.val (fun _ _ => (R.gtr rfl rfl)) ?_
                                      refine WQ.val (fun _ _ => (R.pickF rfl hb119 rfl)) ?_
                                      exact WQ.nil ⟨(orF hb119), (by repeat (first | refine agree_upd rfl ?_ | refine agree_upds' rfl ?_ | exact agree_refl))⟩
                                  · intro us
                                    refine WQ.val (fun _ _ => (R.mv (v := (boo (((((((((!r30.2) || (!r35.2)) || (!r40.2)) || (!r45.2)) || (!r50.2)) || (decide (r97 < 0))) || (decide (23 < r40.1))) || (decide (59 < r45.1))) || (decide (59 < r50.1))))) rfl)) ?_
                                    obtain ⟨b127, hg122, h⟩ := bindE h
                                    refine WQ.grp 12 [134, 135, 136, 137, 138, 139, 140, 141, 142, 143, 144] 145 (boo b127) ?_ ?_
                                    · rcases boolE (((((((((!r30.2) || (!r35.2)) || (!r40.2)) || (!r45.2)) || (!r50.2)) || (decide (r97 < 0))) || (decide (23 < r40.1))) || (decide (59 < r45.1))) || (decide (59 < r50.1))) with hb121 | hb121
                                      · replace hg122 := condT hg122 hb121
                                        refine WQ.gno rfl rfl hb121 ?_
                                        refine WQ.gno rfl rfl hb121 ?_
                                        refine WQ.gno rfl rfl hb121 ?_
                                        refine WQ.gno rfl rfl hb121 ?_
                                        refine WQ.gno rfl rfl hb121 ?_
                                        refine WQ.gno rfl rfl hb121 ?_
                                        refine WQ.gno rfl rfl hb121 ?_
                                        refine WQ.gno rfl rfl hb121 ?_
                                        refine WQ.gno rfl rfl hb121 ?_
                                        refine WQ.gno rfl rfl hb121 ?_
                                        refine WQ.gno rfl rfl hb121 ?_
                                        refine WQ.val (fun _ _ => (R.pickT rfl hb121 rfl)) ?_
                                        exact WQ.nil ⟨(congrArg boo (Option.some.inj hg122)), (by repeat (first | refine agree_upd rfl ?_ | refine agree_upds' rfl ?_ | exact agree_refl))⟩
                                      · replace hg122 := condF hg122 hb121
                                        refine WQ.gyes rfl rfl hb121 ?_
                                        refine WQ.val (fun _ _ => (R.mv (v := (int r97)) rfl)) ?_
                                        refine WQ.gyes rfl rfl hb121 ?_
                                        obtain ⟨n123, hn123, hg122⟩ := bindE hg122
                                        refine WQ.val (fun _ _ => (R.rem' rfl rfl hn123)) ?_
                                        refine WQ.gyes rfl rfl hb121 ?_
                                        refine WQ.val (fun _ _ => (R.mul rfl rfl)) ?_
                                        refine WQ.gyes rfl rfl hb121 ?_
                                        refine WQ.val (fun _ _ => (R.mv (v := (int r97)) rfl)) ?_
                                        refine WQ.gyes rfl rfl hb121 ?_
                                        obtain ⟨n124, hn124, hg122⟩ := bindE hg122
                                        refine WQ.val (fun _ _ => (R.rem' rfl rfl hn124)) ?_
                                        refine WQ.gyes rfl rfl hb121 ?_
                                        refine WQ.val (fun _ _ => (R.mul rfl rfl)) ?_
                                        refine WQ.gyes rfl rfl hb121 ?_
                                        refine WQ.val (fun _ _ => (R.add rfl rfl)) ?_
                                        refine WQ.gyes rfl rfl hb121 ?_
                                        obtain ⟨s125, hs125, hg122⟩ := bindE hg122
                                        refine WQ.val (fun _ _ => (R.subS rfl rfl rfl Tryd.underlying9 hs125)) ?_
                                        refine WQ.gyes rfl rfl hb121 ?_
                                        refine WQ.val (fun _ _ => (R.mv (v := (str p_ppend)) h72)) ?_
                                        refine WQ.gyes rfl rfl hb121 ?_
                                        obtain ⟨s126, hs126, hg122⟩ := bindE hg122
                                        refine WQ.val (fun _ _ => (R.subShi rfl rfl Tryd.underlying9 hs126)) ?_
                                        refine WQ.gyes rfl rfl hb121 ?_
                                        refine WQ.val (fun _ _ => (R.neqS (a := s125) (b := s126) rfl rfl)) ?_
                                        refine WQ.val (fun _ _ => (R.pickF rfl hb121 rfl)) ?_
                                        exact WQ.nil ⟨(congrArg boo (Option.some.inj hg122)), (by repeat (first | refine agree_upd rfl ?_ | refine agree_upds' rfl ?_ | exact agree_refl))⟩
                                    · intro us
                                      refine WQ.nil ?_
                                      intro w102 H103 hle104 S
                                      rcases condE h with ⟨hc128, h⟩ | ⟨hc128, h⟩
                                      · refine WP.condT rfl hc128 ?_
                                        refine WP.seq ?_
                                        refine WP.region ?_
                                        refine WL.valw (R.as (v := (int 0)) rfl) ?_
                                        refine WL.valw (R.as (v := (boo false)) rfl) ?_
                                        refine WL.nil ?_
                                        obtain rfl := Option.some.inj h
                                        refine WP.ret (Out.two rfl S rfl rfl ?_)
                                        exact rfl
                                      · refine WP.condF rfl hc128 ?_
                                        refine WP.skip ?_
                                        refine WP.seq ?_
                                        refine WP.region ?_
                                        refine WL.valw (R.mv (v := (int r97)) rfl) ?_
                                        refine WL.valw (R.mul rfl rfl) ?_
                                        refine WL.valw (R.mv (v := (int r40.1)) h77) ?_
                                        refine WL.valw (R.mul rfl rfl) ?_
                                        refine WL.valw (R.mv (v := (int r45.1)) h79) ?_
                                        refine WL.valw (R.mul rfl rfl) ?_
                                        refine WL.valw (R.add rfl rfl) ?_
                                        refine WL.valw (R.mv (v := (int r50.1)) h81) ?_
                                        refine WL.valw (R.add rfl rfl) ?_
                                        refine WL.valw (R.add rfl rfl) ?_
                                        refine WL.valw (R.as (v := (int (wr ((wr (r97 * 86400)) + (wr ((wr ((wr (r40.1 * 3600)) + (wr (r45.1 * 60)))) + r50.1)))))) rfl) ?_
                                        refine WL.valw (R.as (v := (boo true)) rfl) ?_
                                        refine WL.nil ?_
                                        obtain rfl := Option.some.inj h
                                        refine WP.ret (Out.two rfl S rfl rfl ?_)
                                        exact rfl
set_option maxRecDepth 10000 in
set_option maxHeartbeats 4000000 in
theorem ref19_firstDate_ok {w0 : World} {H0 : Hp} (hw : Holds w0 H0) (hG : Tryd.Gl w0) (p_l : (List GField)) (p_name : Str) {vp_l : Value} (Rp_l : Sl (α := GField) H0 vp_l p_l) {r : (Int × Bool)} (h : ref19_firstDate p_l p_name = some r) :
    Con Tryd.prog 39 [vp_l, (str p_name)] w0 H0 (fun H' v => v = (.tuple ⟨[(int r.1), (boo r.2)]⟩)) := by
  refine Con.mk (N := 20) Tryd.func39 rfl rfl (by kernel_rfl) rfl ?_
  have S := St.start hw
  refine WP.seq ?_
  refine WP.region ?_
  refine WL.valw (R.as (v := (int 0)) rfl) ?_
  refine WL.valw (R.as (v := (boo false)) rfl) ?_
  refine WL.nil ?_
  refine WP.seq ?_
  refine WP.region ?_
  refine WL.valw (R.mv (v := vp_l) rfl) ?_
  refine WL.valw (R.mv (v := (str p_name)) rfl) ?_
  obtain ⟨r1, hr1, h⟩ := bindE h
  refine W.call S rfl (ref01_First_ok S.holds (hG.post S.post) p_l p_name Rp_l hr1) ?_
  rintro v2 w3 H4 hle5 S rfl
  have Rp_l := Sl.mono Rp_l hle5
  refine WL.valw (R.mv (v := (.tuple ⟨[(str r1.1), (boo r1.2)]⟩)) rfl) ?_
  refine WL.valw (R.ext rfl rfl) ?_
  refine WL.valw (R.ext rfl rfl) ?_
  refine WL.valw (R.as (v := (str r1.1)) rfl) ?_
  refine WL.valw (R.as (v := (boo r1.2)) rfl) ?_
  refine WL.nil ?_
  refine WP.seq ?_
  refine WP.seq ?_
  refine WP.region ?_
  refine WL.valw (R.mv (v := (boo r1.2)) rfl) ?_
  refine WL.valw (R.not rfl) ?_
  refine WL.nil ?_
  rcases condE h with ⟨hc6, h⟩ | ⟨hc6, h⟩
  · refine WP.condT rfl hc6 ?_
    refine WP.seq ?_
    refine WP.region ?_
    refine WL.valw (R.as (v := (int 0)) rfl) ?_
    refine WL.valw (R.as (v := (boo false)) rfl) ?_
    refine WL.nil ?_
    obtain rfl := Option.some.inj h
    refine WP.ret (Out.two rfl S rfl rfl ?_)
    exact rfl
  · refine WP.condF rfl hc6 ?_
    refine WP.skip ?_
    refine WP.seq ?_
    refine WP.region ?_
    refine WL.valw (R.mv (v := (str r1.1)) rfl) ?_
    obtain ⟨r7, hr7, h⟩ := bindE h
    refine W.call S rfl (ref19_ParseDate_ok S.holds (hG.post S.post) r1.1 hr7) ?_
    rintro v8 w9 H10 hle11 S rfl
    have Rp_l := Sl.mono Rp_l hle11
    refine WL.valw (R.ext rfl rfl) ?_
    refine WL.valw (R.ext rfl rfl) ?_
    refine WL.valw (R.as (v := (int r7.1)) rfl) ?_
    refine WL.valw (R.as (v := (boo r7.2)) rfl) ?_
    refine WL.nil ?_
    obtain rfl := Option.some.inj h
    refine WP.ret (Out.two rfl S rfl rfl ?_)
    exact rfl
set_option maxRecDepth 10000 in
set_option maxHeartbeats 4000000 in
theorem ref19_DateOf_ok {w0 : World} {H0 : Hp} (hw : Holds w0 H0) (hG : Tryd.Gl w0) (p_l : (List GField)) (p_received : Int) {vp_l : Value} (Rp_l : Sl (α := GField) H0 vp_l p_l) {r : Int} (h : ref19_DateOf p_l p_received = some r) :
    Con Tryd.prog 33 [vp_l, (int p_received)] w0 H0 (fun H' v => v = (int r)) := by
  refine Con.mk (N := 15) Tryd.func33 rfl rfl (by kernel_rfl) rfl ?_
  have S := St.start hw
  refine WP.seq ?_
  refine WP.region ?_
  refine WL.valw (R.as (v := (int 0)) rfl) ?_
  refine WL.nil ?_
  refine WP.seq ?_
  refine WP.seq ?_
  refine WP.region ?_
  refine WL.valw (R.mv (v := vp_l) rfl) ?_
  obtain ⟨r1, hr1, h⟩ := bindE h
  refine W.call S rfl (ref19_firstDate_ok S.holds (hG.post S.post) p_l [68, 97, 116, 101] Rp_l hr1) ?_
  rintro v2 w3 H4 hle5 S rfl
  have Rp_l := Sl.mono Rp_l hle5
  refine WL.valw (R.mv (v := (.tuple ⟨[(int r1.1), (boo r1.2)]⟩)) rfl) ?_
  refine WL.valw (R.ext rfl rfl) ?_
  refine WL.valw (R.ext rfl rfl) ?_
  refine WL.valw (R.as (v := (int r1.1)) rfl) ?_
  refine WL.valw (R.as (v := (boo r1.2)) rfl) ?_
  refine WL.nil ?_
  refine WP.seq ?_
  refine WP.region ?_
  refine WL.valw (R.mv (v := (boo r1.2)) rfl) ?_
  refine WL.nil ?_
  rcases condE h with ⟨hc6, h⟩ | ⟨hc6, h⟩
  · refine WP.condT rfl hc6 ?_
    refine WP.seq ?_
    refine WP.region ?_
    refine WL.valw (R.mv (v := (int r1.1)) rfl) ?_
    refine WL.valw (R.as (v := (int r1.1)) rfl) ?_
    refine WL.nil ?_
    obtain rfl := Option.some.inj h
    refine WP.ret (Out.one rfl S rfl ?_)
    exact rfl
  · refine WP.condF rfl hc6 ?_
    refine WP.skip ?_
    refine WP.seq ?_
    refine WP.region ?_
    refine WL.valw (R.mv (v := (int p_received)) rfl) ?_
    refine WL.valw (R.as (v := (int p_received)) rfl) ?_
    refine WL.nil ?_
    obtain rfl := Option.some.inj h
    refine WP.ret (Out.one rfl S rfl ?_)
    exact rfl
set_option maxRecDepth 10000 in
set_option maxHeartbeats 4000000 in
theorem ref19_Age_ok {w0 : World} {H0 : Hp} (hw : Holds w0 H0) (hG : Tryd.Gl w0) (p_l : (List GField)) (p_requested : Int) (p_received : Int) (p_now : Int) {vp_l : Value} (Rp_l : Sl (α := GField) H0 vp_l p_l) {r : Int} (h : ref19_Age p_l p_requested p_received p_now = some r) :
    Con Tryd.prog 18 [vp_l, (int p_requested), (int p_received), (int p_now)] w0 H0 (fun H' v => v = (int r)) := by
  refine Con.mk (N := 60) Tryd.func18 rfl rfl (by kernel_rfl) rfl ?_
  have S := St.start hw
  refine WP.seq ?_
  refine WP.region ?_
  refine WL.valw (R.as (v := (int 0)) rfl) ?_
  refine WL.nil ?_
  refine WP.seq ?_
  refine WP.seq ?_
  refine WP.region ?_
  refine WL.valw (R.mv (v := (int p_requested)) rfl) ?_
  refine WL.valw (R.lss rfl rfl) ?_
  refine WL.valw (R.mv (v := (boo (decide (p_requested < 0)))) rfl) ?_
  refine WL.grp 4 [18, 19, 20] 21 (boo ((decide (p_requested < 0)) || (decide (p_received < p_requested)))) ?_ ?_
  · rcases boolE (decide (p_requested < 0)) with hb1 | hb1
    · refine WL.gno rfl rfl hb1 ?_
      refine WL.gno rfl rfl hb1 ?_
      refine WL.gno rfl rfl hb1 ?_
      refine WL.valw (R.pickT rfl hb1 rfl) ?_
      exact WL.nil ⟨(orT hb1), (by repeat (first | refine agree_upd rfl ?_ | refine agree_upds' rfl ?_ | exact agree_refl)), rfl⟩
    · refine WL.gyes rfl rfl hb1 ?_
      refine WL.valw (R.mv (v := (int p_requested)) rfl) ?_
      refine WL.gyes rfl rfl hb1 ?_
      refine WL.valw (R.mv (v := (int p_received)) rfl) ?_
      refine WL.gyes rfl rfl hb1 ?_
      refine WL.valw (R.gtr rfl rfl) ?_
      refine WL.valw (R.pickF rfl hb1 rfl) ?_
      exact WL.nil ⟨(orF hb1), (by repeat (first | refine agree_upd rfl ?_ | refine agree_upds' rfl ?_ | exact agree_refl)), rfl⟩
  · intro us
    refine WL.valw (R.mv (v := (boo ((decide (p_requested < 0)) || (decide (p_received < p_requested))))) rfl) ?_
    refine WL.grp 4 [23, 24, 25] 26 (boo (((decide (p_requested < 0)) || (decide (p_received < p_requested))) || (decide (p_now < p_received)))) ?_ ?_
    · rcases boolE ((decide (p_requested < 0)) || (decide (p_received < p_requested))) with hb3 | hb3
      · refine WL.gno rfl rfl hb3 ?_
        refine WL.gno rfl rfl hb3 ?_
        refine WL.gno rfl rfl hb3 ?_
        refine WL.valw (R.pickT rfl hb3 rfl) ?_
        exact WL.nil ⟨(orT hb3), (by repeat (first | refine agree_upd rfl ?_ | refine agree_upds' rfl ?_ | exact agree_refl)), rfl⟩
      · refine WL.gyes rfl rfl hb3 ?_
        refine WL.valw (R.mv (v := (int p_received)) rfl) ?_
        refine WL.gyes rfl rfl hb3 ?_
        refine WL.valw (R.mv (v := (int p_now)) rfl) ?_
        refine WL.gyes rfl rfl hb3 ?_
        refine WL.valw (R.gtr rfl rfl) ?_
        refine WL.valw (R.pickF rfl hb3 rfl) ?_
        exact WL.nil ⟨(orF hb3), (by repeat (first | refine agree_upd rfl ?_ | refine agree_upds' rfl ?_ | exact agree_refl)), rfl⟩
    · intro us
      refine WL.valw (R.mv (v := (boo (((decide (p_requested < 0)) || (decide (p_received < p_requested))) || (decide (p_now < p_received))))) rfl) ?_
      refine WL.grp 3 [28, 29] 30 (boo ((((decide (p_requested < 0)) || (decide (p_received < p_requested))) || (decide (p_now < p_received))) || (decide (1099511627776 < p_now)))) ?_ ?_
      · rcases boolE (((decide (p_requested < 0)) || (decide (p_received < p_requested))) || (decide (p_now < p_received))) with hb5 | hb5
        · refine WL.gno rfl rfl hb5 ?_
          refine WL.gno rfl rfl hb5 ?_
          refine WL.valw (R.pickT rfl hb5 rfl) ?_
          exact WL.nil ⟨(orT hb5), (by repeat (first | refine agree_upd rfl ?_ | refine agree_upds' rfl ?_ | exact agree_refl)), rfl⟩
        · refine WL.gyes rfl rfl hb5 ?_
          refine WL.valw (R.mv (v := (int p_now)) rfl) ?_
          refine WL.gyes rfl rfl hb5 ?_
          refine WL.valw (R.gtr rfl rfl) ?_
          refine WL.valw (R.pickF rfl hb5 rfl) ?_
          exact WL.nil ⟨(orF hb5), (by repeat (first | refine agree_upd rfl ?_ | refine agree_upds' rfl ?_ | exact agree_refl)), rfl⟩
      · intro us
        refine WL.nil ?_
        rcases condE h with ⟨hc7, h⟩ | ⟨hc7, h⟩
        · refine WP.condT rfl hc7 ?_
          refine WP.seq ?_
          refine WP.region ?_
          refine WL.valw (R.as (v := (int 2147483647)) rfl) ?_
          refine WL.nil ?_
          obtain rfl := Option.some.inj h
          refine WP.ret (Out.one rfl S rfl ?_)
          exact rfl
        · refine WP.condF rfl hc7 ?_
          refine WP.skip ?_
          refine WP.seq ?_
          refine WP.region ?_
          refine WL.valw (R.mv (v := vp_l) rfl) ?_
          obtain ⟨r8, hr8, h⟩ := bindE h
          refine W.call S rfl (ref01_First_ok S.holds (hG.post S.post) p_l [65, 103, 101] Rp_l hr8) ?_
          rintro v9 w10 H11 hle12 S rfl
          have Rp_l := Sl.mono Rp_l hle12
          refine WL.valw (R.mv (v := (.tuple ⟨[(str r8.1), (boo r8.2)]⟩)) rfl) ?_
          refine WL.valw (R.ext rfl rfl) ?_
          refine WL.valw (R.ext rfl rfl) ?_
          refine WL.valw (R.as (v := (str r8.1)) rfl) ?_
          refine WL.valw (R.as (v := (boo r8.2)) rfl) ?_
          refine WL.nil ?_
          refine WP.seq ?_
          refine WP.region ?_
          refine WL.valw (R.mv (v := (str r8.1)) rfl) ?_
          obtain ⟨r13, hr13, h⟩ := bindE h
          refine W.call S rfl (ref01_Number_ok S.holds (hG.post S.post) r8.1 hr13) ?_
          rintro v14 w15 H16 hle17 S rfl
          have Rp_l := Sl.mono Rp_l hle17
          refine WL.valw (R.mv (v := (.tuple ⟨[(int r13.1), (boo r13.2)]⟩)) rfl) ?_
          refine WL.valw (R.ext rfl rfl) ?_
          refine WL.valw (R.ext rfl rfl) ?_
          refine WL.valw (R.as (v := (int r13.1)) rfl) ?_
          refine WL.valw (R.as (v := (boo r13.2)) rfl) ?_
          refine WL.nil ?_
          refine WP.seq ?_
          refine WP.region ?_
          refine WL.valw (R.mv (v := (int p_received)) rfl) ?_
          refine WL.valw (R.mv (v := vp_l) rfl) ?_
          refine WL.valw (R.mv (v := (int p_received)) rfl) ?_
          obtain ⟨r18, hr18, h⟩ := bindE h
          refine W.call S rfl (ref19_DateOf_ok S.holds (hG.post S.post) p_l p_received Rp_l hr18) ?_
          rintro v19 w20 H21 hle22 S rfl
          have Rp_l := Sl.mono Rp_l hle22
          refine WL.valw (R.sub rfl rfl) ?_
          refine WL.valw (R.max rfl rfl) ?_
          refine WL.valw (R.as (v := (int (if 0 < (wr (p_received - r18)) then (wr (p_received - r18)) else 0))) rfl) ?_
          refine WL.nil ?_
          refine WP.seq ?_
          refine WP.region ?_
          refine WL.valw (R.mv (v := (int r13.1)) rfl) ?_
          refine WL.valw (R.mv (v := (int p_received)) rfl) ?_
          refine WL.valw (R.add rfl rfl) ?_
          refine WL.valw (R.mv (v := (int p_requested)) rfl) ?_
          refine WL.valw (R.sub rfl rfl) ?_
          refine WL.valw (R.as (v := (int (wr ((wr (r13.1 + p_received)) - p_requested)))) rfl) ?_
          refine WL.nil ?_
          refine WP.seq ?_
          refine WP.region ?_
          refine WL.valw (R.mv (v := (int (if 0 < (wr (p_received - r18)) then (wr (p_received - r18)) else 0))) rfl) ?_
          refine WL.valw (R.mv (v := (int (wr ((wr (r13.1 + p_received)) - p_requested)))) rfl) ?_
          refine WL.valw (R.max rfl rfl) ?_
          refine WL.valw (R.mv (v := (int p_now)) rfl) ?_
          refine WL.valw (R.add rfl rfl) ?_
          refine WL.valw (R.mv (v := (int p_received)) rfl) ?_
          refine WL.valw (R.sub rfl rfl) ?_
          refine WL.valw (R.min rfl rfl) ?_
          refine WL.valw (R.as (v := (int (if 2147483647 < (wr ((wr ((if (if 0 < (wr (p_received - r18)) then (wr (p_received - r18)) else 0) < (wr ((wr (r13.1 + p_received)) - p_requested)) then (wr ((wr (r13.1 + p_received)) - p_requested)) else (if 0 < (wr (p_received - r18)) then (wr (p_received - r18)) else 0)) + p_now)) - p_received)) then 2147483647 else (wr ((wr ((if (if 0 < (wr (p_received - r18)) then (wr (p_received - r18)) else 0) < (wr ((wr (r13.1 + p_received)) - p_requested)) then (wr ((wr (r13.1 + p_received)) - p_requested)) else (if 0 < (wr (p_received - r18)) then (wr (p_received - r18)) else 0)) + p_now)) - p_received))))) rfl) ?_
          refine WL.nil ?_
          obtain rfl := Option.some.inj h
          refine WP.ret (Out.one rfl S rfl ?_)
          exact rfl
set_option maxRecDepth 10000 in
set_option maxHeartbeats 4000000 in
theorem ref26_Age_ok {w0 : World} {H0 : Hp} (hw : Holds w0 H0) (hG : Tryd.Gl w0) (p_e : GEntry) (p_now : Int) {vp_e0 : Value} {vp_e1 : Value} {vp_e2 : Value} {vp_e4 : Value} (Rp_e0 : Sl (α := (List Str)) H0 vp_e0 p_e.fKeys) (Rp_e1 : Sl (α := Str) H0 vp_e1 p_e.fVary) (Rp_e2 : Sl (α := Str) H0 vp_e2 p_e.fSnapshot) (Rp_e4 : Sl (α := GField) H0 vp_e4 p_e.fFields) {r : Int} (h : ref26_Age p_e p_now = some r) :
    Con Tryd.prog 8 [(agg [vp_e0, vp_e1, vp_e2, (str p_e.fReason), vp_e4, (str p_e.fBody), (int p_e.fRequested), (int p_e.fReceived)]), (int p_now)] w0 H0 (fun H' v => v = (int r)) := by
  refine Con.mk (N := 13) Tryd.func8 rfl rfl (by kernel_rfl) rfl ?_
  have S := St.start hw
  refine WP.seq ?_
  refine WP.region ?_
  refine W.box [vp_e0, vp_e1, vp_e2, (str p_e.fReason), vp_e4, (str p_e.fBody), (int p_e.fRequested), (int p_e.fReceived)] S rfl rfl ?_
  intro b1 w2 S
  refine WL.valw (R.as (v := (int 0)) rfl) ?_
  refine WL.nil ?_
  refine WP.seq ?_
  refine WP.region ?_
  refine WL.valw (R.fieldB rfl fld26_4) ?_
  refine WL.valw (R.loadB (i := 0) (v := vp_e4) S rfl rfl lay24 rfl) ?_
  refine WL.valw (R.fieldB rfl fld26_6) ?_
  refine WL.valw (R.loadB (i := 0) (v := (int p_e.fRequested)) S rfl rfl lay2 rfl) ?_
  refine WL.valw (R.fieldB rfl fld26_7) ?_
  refine WL.valw (R.loadB (i := 0) (v := (int p_e.fReceived)) S rfl rfl lay2 rfl) ?_
  refine WL.valw (R.mv (v := (int p_now)) rfl) ?_
  obtain ⟨r3, hr3, h⟩ := bindE h
  refine W.call S rfl (ref19_Age_ok S.holds (hG.post S.post) p_e.fFields p_e.fRequested p_e.fReceived p_now Rp_e4 hr3) ?_
  rintro v4 w5 H6 hle7 S rfl
  have Rp_e0 := Sl.mono Rp_e0 hle7
  have Rp_e1 := Sl.mono Rp_e1 hle7
  have Rp_e2 := Sl.mono Rp_e2 hle7
  have Rp_e4 := Sl.mono Rp_e4 hle7
  refine WL.valw (R.as (v := (int r3)) rfl) ?_
  refine WL.nil ?_
  obtain rfl := Option.some.inj h
  refine WP.ret (Out.one rfl S rfl ?_)
  exact rfl
set_option maxRecDepth 10000 in
set_option maxHeartbeats 4000000 in
theorem slices_EqualFunc_string_string_string_string_ok {w0 : World} {H0 : Hp} (hw : Holds w0 H0) (hG : Tryd.Gl w0) (p_s1 : (List (List Str))) (p_s2 : (List (List Str))) (p_eq : ((List Str) → (List Str) → Option Bool)) {vp_s1 : Value} {vp_s2 : Value} {kp_eq : FuncId} {cp_eq : List Value} (Rp_s1 : Sl (α := (List Str)) H0 vp_s1 p_s1) (Rp_s2 : Sl (α := (List Str)) H0 vp_s2 p_s2) (Fp_eq : ∀ {w : World} {H : Hp}, H0.le H → Holds w H → Tryd.Gl w → ∀ (x0 : (List Str)) (x1 : (List Str)), ∀ {y0 y1 : Value}, Sl (α := Str) H y0 x0 → Sl (α := Str) H y1 x1 → ∀ (rr : Bool), p_eq x0 x1 = some rr → Con Tryd.prog kp_eq ([y0, y1] ++ cp_eq) w H (fun H' v => v = (boo rr))) {r : Bool} (h : slices_EqualFunc_string_string_string_string p_s1 p_s2 p_eq = some r) :
    Con Tryd.prog 19 [vp_s1, vp_s2, (.func (.func kp_eq) #[] cp_eq.toArray)] w0 H0 (fun H' v => v = (boo r)) := by
  refine Con.mk (N := 32) Tryd.func19 rfl rfl (by kernel_rfl) rfl ?_
  have S := St.start hw
  refine WP.seq ?_
  refine WP.region ?_
  refine WL.valw (R.as (v := (boo false)) rfl) ?_
  refine WL.nil ?_
  refine WP.seq ?_
  refine WP.seq ?_
  refine WP.region ?_
  refine WL.valw (R.mv (v := vp_s1) rfl) ?_
  refine WL.valw (R.lenL (α := (List Str)) (xs := p_s1) (H := H0) Rp_s1 rfl Tryd.underlying22) ?_
  refine WL.valw (R.mv (v := vp_s2) rfl) ?_
  refine WL.valw (R.lenL (α := (List Str)) (xs := p_s2) (H := H0) Rp_s2 rfl Tryd.underlying22) ?_
  refine WL.valw (R.neq rfl rfl) ?_
  refine WL.nil ?_
  rcases condE h with ⟨hc1, h⟩ | ⟨hc1, h⟩
  · refine WP.condT rfl hc1 ?_
    refine WP.seq ?_
    refine WP.region ?_
    refine WL.valw (R.as (v := (boo false)) rfl) ?_
    refine WL.nil ?_
    obtain rfl := Option.some.inj h
    refine WP.ret (Out.one rfl S rfl ?_)
    exact rfl
  · refine WP.condF rfl hc1 ?_
    refine WP.skip ?_
    refine WP.seq ?_
    refine WP.seq ?_
    refine WP.region ?_
    refine WL.valw (R.mv (v := vp_s1) rfl) ?_
    refine WL.valw (R.lenL (α := (List Str)) (xs := p_s1) (H := H0) Rp_s1 rfl Tryd.underlying22) ?_
    refine WL.valw (R.mv (v := (int 0)) rfl) ?_
    refine WL.nil ?_
    obtain ⟨r13, hr14, h⟩ := bindE h
    refine WP.cut (fun f w => match r13 with | .inl _ => ∃ (H9 : Hp), St w0 H0 w H9 [] | .inr _ => False) ?_ ?_
    · refine WP.block ?_
      refine WP.loopM (slices_EqualFunc_string_string_string_string_L0 p_s1 p_s2 p_eq) (fun s f w => match s with | y_7 => ∃ (H2 : Hp), f 1 = vp_s2 ∧ f 2 = (.func (.func kp_eq) #[] cp_eq.toArray) ∧ f 15 = vp_s1 ∧ f 16 = (int (p_s1.length : Int)) ∧ f 17 = (int y_7) ∧ Sl (α := (List Str)) H2 vp_s2 p_s2 ∧ Sl (α := (List Str)) H2 vp_s1 p_s1 ∧ St w0 H0 w H2 []) 0 r13 hr14 ?_ ?_
      · exact ⟨H0, rfl, rfl, rfl, rfl, rfl, Rp_s2, Rp_s1, S⟩
      · intro y_7 f w hI y10 hy11 hy12
        obtain ⟨H2, h3, h4, h5, h6, h8, Rp_s2, Rp_s1, S⟩ := hI
        refine WP.seq ?_
        refine WP.region ?_
        refine WL.valw (R.lss h8 h6) ?_
        refine WL.nil ?_
        refine WP.seq ?_
        rcases condE hy11 with ⟨hc15, hy11⟩ | ⟨hc15, hy11⟩
        · refine WP.condT rfl hc15 ?_
          refine WP.skip ?_
          refine WP.seq ?_
          refine WP.block ?_
          refine WP.seq ?_
          refine WP.region ?_
          refine WL.valw (R.mv (v := (int y_7)) h8) ?_
          obtain ⟨x16, hx16, hy11⟩ := bindE hy11
          refine W.idx (α := (List Str)) Rp_s1 h5 h8 el22 hx16 ?_
          rintro a17 _ hA18 ⟨v19, rfl, R20⟩
          refine WL.valw (R.loadH (v := v19) S rfl hA18 lay23 rfl) ?_
          refine WL.valw (R.as (v := (int y_7)) rfl) ?_
          refine WL.valw (R.as (v := v19) rfl) ?_
          refine WL.nil ?_
          refine WP.seq ?_
          refine WP.region ?_
          refine WL.valw (R.mv (v := vp_s2) h3) ?_
          refine WL.valw (R.mv (v := (int y_7)) rfl) ?_
          obtain ⟨x21, hx21, hy11⟩ := bindE hy11
          refine W.idx (α := (List Str)) Rp_s2 rfl rfl el22 hx21 ?_
          rintro a22 _ hA23 ⟨v24, rfl, R25⟩
          refine WL.valw (R.loadH (v := v24) S rfl hA23 lay23 rfl) ?_
          refine WL.valw (R.as (v := v24) rfl) ?_
          refine WL.nil ?_
          refine WP.seq ?_
          refine WP.region ?_
          refine WL.valw (R.mv (v := (.func (.func kp_eq) #[] cp_eq.toArray)) h4) ?_
          refine WL.valw (R.mv (v := v19) rfl) ?_
          refine WL.valw (R.mv (v := v24) rfl) ?_
          obtain ⟨r26, hr26, hy11⟩ := bindE hy11
          refine W.callv S rfl rfl (Fp_eq (S.post.le) S.holds (hG.post S.post) x16 x21 R20 R25 _ hr26) ?_
          rintro v27 w28 H29 hle30 S rfl
          have Rp_s2 := Sl.mono Rp_s2 hle30
          have Rp_s1 := Sl.mono Rp_s1 hle30
          have hA18 := At.mono hA18 hle30 (by simp)
          have R20 := Sl.mono R20 hle30
          have hA23 := At.mono hA23 hle30 (by simp)
          have R25 := Sl.mono R25 hle30
          refine WL.valw (R.not rfl) ?_
          refine WL.nil ?_
          rcases condE hy11 with ⟨hc31, hy11⟩ | ⟨hc31, hy11⟩
          · refine WP.condT rfl hc31 ?_
            refine WP.seq ?_
            refine WP.region ?_
            refine WL.valw (R.as (v := (boo false)) rfl) ?_
            refine WL.nil ?_
            obtain rfl := Option.some.inj hy11
            obtain rfl := hy12
            obtain rfl := Option.some.inj h
            refine WP.ret (Out.one rfl S rfl ?_)
            exact rfl
          · refine WP.condF rfl hc31 ?_
            refine WP.skip ?_
            refine WP.region ?_
            refine WL.valw (R.add h8 rfl) ?_
            refine WL.valw (R.mv (v := (int (wr (y_7 + 1)))) rfl) ?_
            refine WL.nil ?_
            obtain rfl := Option.some.inj hy11
            exact ⟨rfl, ⟨H29, h3, h4, h5, h6, rfl, Rp_s2, Rp_s1, S⟩⟩
        · refine WP.condF rfl hc15 ?_
          refine WP.exit ?_
          obtain rfl := Option.some.inj hy11
          obtain rfl := hy12
          exact ⟨H2, S⟩
    · intro f w hM
      rcases r13 with _ | e
      · obtain ⟨H9, S⟩ := hM
        refine WP.seq ?_
        refine WP.region ?_
        refine WL.valw (R.as (v := (boo true)) rfl) ?_
        refine WL.nil ?_
        obtain rfl := Option.some.inj h
        refine WP.ret (Out.one rfl S rfl ?_)
        exact rfl
      · exact hM.elim
set_option maxRecDepth 10000 in
set_option maxHeartbeats 4000000 in
theorem slices_Equal_string_string_ok {w0 : World} {H0 : Hp} (hw : Holds w0 H0) (hG : Tryd.Gl w0) (p_s1 : (List Str)) (p_s2 : (List Str)) {vp_s1 : Value} {vp_s2 : Value} (Rp_s1 : Sl (α := Str) H0 vp_s1 p_s1) (Rp_s2 : Sl (α := Str) H0 vp_s2 p_s2) {r : Bool} (h : slices_Equal_string_string p_s1 p_s2 = some r) :
    Con Tryd.prog 21 [vp_s1, vp_s2] w0 H0 (fun H' v => v = (boo r)) := by
  refine Con.mk (N := 26) Tryd.func21 rfl rfl (by kernel_rfl) rfl ?_
  have S := St.start hw
  refine WP.seq ?_
  refine WP.region ?_
  refine WL.valw (R.as (v := (boo false)) rfl) ?_
  refine WL.nil ?_
  refine WP.seq ?_
  refine WP.seq ?_
  refine WP.region ?_
  refine WL.valw (R.mv (v := vp_s1) rfl) ?_
  refine WL.valw (R.lenL (α := Str) (xs := p_s1) (H := H0) Rp_s1 rfl Tryd.underlying23) ?_
  refine WL.valw (R.mv (v := vp_s2) rfl) ?_
  refine WL.valw (R.lenL (α := Str) (xs := p_s2) (H := H0) Rp_s2 rfl Tryd.underlying23) ?_
  refine WL.valw (R.neq rfl rfl) ?_
  refine WL.nil ?_
  rcases condE h with ⟨hc1, h⟩ | ⟨hc1, h⟩
  · refine WP.condT rfl hc1 ?_
    refine WP.seq ?_
    refine WP.region ?_
    refine WL.valw (R.as (v := (boo false)) rfl) ?_
    refine WL.nil ?_
    obtain rfl := Option.some.inj h
    refine WP.ret (Out.one rfl S rfl ?_)
    exact rfl
  · refine WP.condF rfl hc1 ?_
    refine WP.skip ?_
    refine WP.seq ?_
    refine WP.seq ?_
    refine WP.region ?_
    refine WL.valw (R.mv (v := vp_s1) rfl) ?_
    refine WL.valw (R.lenL (α := Str) (xs := p_s1) (H := H0) Rp_s1 rfl Tryd.underlying23) ?_
    refine WL.valw (R.mv (v := (int 0)) rfl) ?_
    refine WL.nil ?_
    obtain ⟨r12, hr13, h⟩ := bindE h
    refine WP.cut (fun f w => match r12 with | .inl _ => ∃ (H8 : Hp), St w0 H0 w H8 [] | .inr _ => False) ?_ ?_
    · refine WP.block ?_
      refine WP.loopM (slices_Equal_string_string_L0 p_s1 p_s2) (fun s f w => match s with | y_6 => ∃ (H2 : Hp), f 0 = vp_s1 ∧ f 1 = vp_s2 ∧ f 12 = (int (p_s1.length : Int)) ∧ f 13 = (int y_6) ∧ Sl (α := Str) H2 vp_s1 p_s1 ∧ Sl (α := Str) H2 vp_s2 p_s2 ∧ St w0 H0 w H2 []) 0 r12 hr13 ?_ ?_
      · exact ⟨H0, rfl, rfl, rfl, rfl, Rp_s1, Rp_s2, S⟩
      · intro y_6 f w hI y9 hy10 hy11
        obtain ⟨H2, h3, h4, h5, h7, Rp_s1, Rp_s2, S⟩ := hI
        refine WP.seq ?_
        refine WP.region ?_
        refine WL.valw (R.lss h7 h5) ?_
        refine WL.nil ?_
        refine WP.seq ?_
        rcases condE hy10 with ⟨hc14, hy10⟩ | ⟨hc14, hy10⟩
        · refine WP.condT rfl hc14 ?_
          refine WP.skip ?_
          refine WP.seq ?_
          refine WP.block ?_
          refine WP.seq ?_
          refine WP.region ?_
          refine WL.valw (R.mv (v := (int y_6)) h7) ?_
          refine WL.valw (R.as (v := (int y_6)) rfl) ?_
          refine WL.nil ?_
          refine WP.seq ?_
          refine WP.quiet S (by kernel_rfl) (by kernel_rfl) ?_
          refine WQ.val (fun _ _ => (R.mv (v := vp_s1) h3)) ?_
          refine WQ.val (fun _ _ => (R.mv (v := (int y_6)) rfl)) ?_
          obtain ⟨x18, hx18, hy10⟩ := bindE hy10
          refine WQ.idx (α := Str) Rp_s1 rfl rfl el23 hx18 ?_
          rintro a19 _ hA20 rfl
          refine WQ.val (fun w hw => by obtain ⟨_, hq, S⟩ := hw; exact (R.loadH (v := (str x18)) S rfl (At.mono hA20 hq (by simp)) lay9 rfl)) ?_
          refine WQ.val (fun _ _ => (R.mv (v := vp_s2) h4)) ?_
          refine WQ.val (fun _ _ => (R.mv (v := (int y_6)) rfl)) ?_
          obtain ⟨x21, hx21, hy10⟩ := bindE hy10
          refine WQ.idx (α := Str) Rp_s2 rfl rfl el23 hx21 ?_
          rintro a22 _ hA23 rfl
          refine WQ.val (fun w hw => by obtain ⟨_, hq, S⟩ := hw; exact (R.loadH (v := (str x21)) S rfl (At.mono hA23 hq (by simp)) lay9 rfl)) ?_
          refine WQ.val (fun _ _ => (R.neqS (a := x18) (b := x21) rfl rfl)) ?_
          refine WQ.nil ?_
          intro w15 H16 hle17 S
          have Rp_s1 := Sl.mono Rp_s1 hle17
          have Rp_s2 := Sl.mono Rp_s2 hle17
          have hA20 := At.mono hA20 hle17 (by simp)
          have hA23 := At.mono hA23 hle17 (by simp)
          rcases condE hy10 with ⟨hc24, hy10⟩ | ⟨hc24, hy10⟩
          · refine WP.condT rfl hc24 ?_
            refine WP.seq ?_
            refine WP.region ?_
            refine WL.valw (R.as (v := (boo false)) rfl) ?_
            refine WL.nil ?_
            obtain rfl := Option.some.inj hy10
            obtain rfl := hy11
            obtain rfl := Option.some.inj h
            refine WP.ret (Out.one rfl S rfl ?_)
            exact rfl
          · refine WP.condF rfl hc24 ?_
            refine WP.skip ?_
            refine WP.region ?_
            refine WL.valw (R.add h7 rfl) ?_
            refine WL.valw (R.mv (v := (int (wr (y_6 + 1)))) rfl) ?_
            refine WL.nil ?_
            obtain rfl := Option.some.inj hy10
            exact ⟨rfl, ⟨H16, h3, h4, h5, rfl, Rp_s1, Rp_s2, S⟩⟩
        · refine WP.condF rfl hc14 ?_
          refine WP.exit ?_
          obtain rfl := Option.some.inj hy10
          obtain rfl := hy11
          exact ⟨H2, S⟩
    · intro f w hM
      rcases r12 with _ | e
      · obtain ⟨H8, S⟩ := hM
        refine WP.seq ?_
        refine WP.region ?_
        refine WL.valw (R.as (v := (boo true)) rfl) ?_
        refine WL.nil ?_
        obtain rfl := Option.some.inj h
        refine WP.ret (Out.one rfl S rfl ?_)
        exact rfl
      · exact hM.elim
set_option maxRecDepth 10000 in
set_option maxHeartbeats 4000000 in
theorem entry_Equal_1_ok {w0 : World} {H0 : Hp} (hw : Holds w0 H0) (hG : Tryd.Gl w0) (p_x : (List Str)) (p_y : (List Str)) {vp_x : Value} {vp_y : Value} (Rp_x : Sl (α := Str) H0 vp_x p_x) (Rp_y : Sl (α := Str) H0 vp_y p_y) {r : Bool} (h : entry_Equal_1 p_x p_y = some r) :
    Con Tryd.prog 20 [vp_x, vp_y] w0 H0 (fun H' v => v = (boo r)) := by
  refine Con.mk (N := 8) Tryd.func20 rfl rfl (by kernel_rfl) rfl ?_
  have S := St.start hw
  refine WP.seq ?_
  refine WP.region ?_
  refine WL.valw (R.as (v := (boo false)) rfl) ?_
  refine WL.nil ?_
  refine WP.seq ?_
  refine WP.region ?_
  refine WL.valw (R.mv (v := vp_x) rfl) ?_
  refine WL.valw (R.mv (v := vp_y) rfl) ?_
  obtain ⟨r1, hr1, h⟩ := bindE h
  refine W.call S rfl (slices_Equal_string_string_ok S.holds (hG.post S.post) p_x p_y Rp_x Rp_y hr1) ?_
  rintro v2 w3 H4 hle5 S rfl
  have Rp_x := Sl.mono Rp_x hle5
  have Rp_y := Sl.mono Rp_y hle5
  refine WL.valw (R.as (v := (boo r1)) rfl) ?_
  refine WL.nil ?_
  obtain rfl := Option.some.inj h
  refine WP.ret (Out.one rfl S rfl ?_)
  exact rfl
set_option maxRecDepth 10000 in
set_option maxHeartbeats 4000000 in
theorem slices_Equal_api_Field_api_Field_ok {w0 : World} {H0 : Hp} (hw : Holds w0 H0) (hG : Tryd.Gl w0) (p_s1 : (List GField)) (p_s2 : (List GField)) {vp_s1 : Value} {vp_s2 : Value} (Rp_s1 : Sl (α := GField) H0 vp_s1 p_s1) (Rp_s2 : Sl (α := GField) H0 vp_s2 p_s2) {r : Bool} (h : slices_Equal_api_Field_api_Field p_s1 p_s2 = some r) :
    Con Tryd.prog 22 [vp_s1, vp_s2] w0 H0 (fun H' v => v = (boo r)) := by
  refine Con.mk (N := 26) Tryd.func22 rfl rfl (by kernel_rfl) rfl ?_
  have S := St.start hw
  refine WP.seq ?_
  refine WP.region ?_
  refine WL.valw (R.as (v := (boo false)) rfl) ?_
  refine WL.nil ?_
  refine WP.seq ?_
  refine WP.seq ?_
  refine WP.region ?_
  refine WL.valw (R.mv (v := vp_s1) rfl) ?_
  refine WL.valw (R.lenL (α := GField) (xs := p_s1) (H := H0) Rp_s1 rfl Tryd.underlying24) ?_
  refine WL.valw (R.mv (v := vp_s2) rfl) ?_
  refine WL.valw (R.lenL (α := GField) (xs := p_s2) (H := H0) Rp_s2 rfl Tryd.underlying24) ?_
  refine WL.valw (R.neq rfl rfl) ?_
  refine WL.nil ?_
  rcases condE h with ⟨hc1, h⟩ | ⟨hc1, h⟩
  · refine WP.condT rfl hc1 ?_
    refine WP.seq ?_
    refine WP.region ?_
    refine WL.valw (R.as (v := (boo false)) rfl) ?_
    refine WL.nil ?_
    obtain rfl := Option.some.inj h
    refine WP.ret (Out.one rfl S rfl ?_)
    exact rfl
  · refine WP.condF rfl hc1 ?_
    refine WP.skip ?_
    refine WP.seq ?_
    refine WP.seq ?_
    refine WP.region ?_
    refine WL.valw (R.mv (v := vp_s1) rfl) ?_
    refine WL.valw (R.lenL (α := GField) (xs := p_s1) (H := H0) Rp_s1 rfl Tryd.underlying24) ?_
    refine WL.valw (R.mv (v := (int 0)) rfl) ?_
    refine WL.nil ?_
    obtain ⟨r12, hr13, h⟩ := bindE h
    refine WP.cut (fun f w => match r12 with | .inl _ => ∃ (H8 : Hp), St w0 H0 w H8 [] | .inr _ => False) ?_ ?_
    · refine WP.block ?_
      refine WP.loopM (slices_Equal_api_Field_api_Field_L0 p_s1 p_s2) (fun s f w => match s with | y_6 => ∃ (H2 : Hp), f 0 = vp_s1 ∧ f 1 = vp_s2 ∧ f 12 = (int (p_s1.length : Int)) ∧ f 13 = (int y_6) ∧ Sl (α := GField) H2 vp_s1 p_s1 ∧ Sl (α := GField) H2 vp_s2 p_s2 ∧ St w0 H0 w H2 []) 0 r12 hr13 ?_ ?_
      · exact ⟨H0, rfl, rfl, rfl, rfl, Rp_s1, Rp_s2, S⟩
      · intro y_6 f w hI y9 hy10 hy11
        obtain ⟨H2, h3, h4, h5, h7, Rp_s1, Rp_s2, S⟩ := hI
        refine WP.seq ?_
        refine WP.region ?_
        refine WL.valw (R.lss h7 h5) ?_
        refine WL.nil ?_
        refine WP.seq ?_
        rcases condE hy10 with ⟨hc14, hy10⟩ | ⟨hc14, hy10⟩
        · refine WP.condT rfl hc14 ?_
          refine WP.skip ?_
          refine WP.seq ?_
          refine WP.block ?_
          refine WP.seq ?_
          refine WP.region ?_
          refine WL.valw (R.mv (v := (int y_6)) h7) ?_
          refine WL.valw (R.as (v := (int y_6)) rfl) ?_
          refine WL.nil ?_
          refine WP.seq ?_
          refine WP.quiet S (by kernel_rfl) (by kernel_rfl) ?_
          refine WQ.val (fun _ _ => (R.mv (v := vp_s1) h3)) ?_
          refine WQ.val (fun _ _ => (R.mv (v := (int y_6)) rfl)) ?_
          obtain ⟨x18, hx18, hy10⟩ := bindE hy10
          refine WQ.idx (α := GField) Rp_s1 rfl rfl el24 hx18 ?_
          rintro a19 _ hA20 rfl
          refine WQ.val (fun w hw => by obtain ⟨_, hq, S⟩ := hw; exact (R.loadHN (vs := [(str x18.fName), (str x18.fValue)]) S rfl (At.mono hA20 hq (by simp)) lay39 rfl rfl)) ?_
          refine WQ.val (fun _ _ => (R.mv (v := vp_s2) h4)) ?_
          refine WQ.val (fun _ _ => (R.mv (v := (int y_6)) rfl)) ?_
          obtain ⟨x21, hx21, hy10⟩ := bindE hy10
          refine WQ.idx (α := GField) Rp_s2 rfl rfl el24 hx21 ?_
          rintro a22 _ hA23 rfl
          refine WQ.val (fun w hw => by obtain ⟨_, hq, S⟩ := hw; exact (R.loadHN (vs := [(str x21.fName), (str x21.fValue)]) S rfl (At.mono hA23 hq (by simp)) lay39 rfl rfl)) ?_
          refine WQ.val (fun _ _ => (R.neqA (!((x18.fName == x21.fName) && ((x18.fValue == x21.fValue) && true))) rfl rfl ps39 fk39 rfl rfl rfl)) ?_
          refine WQ.nil ?_
          intro w15 H16 hle17 S
          have Rp_s1 := Sl.mono Rp_s1 hle17
          have Rp_s2 := Sl.mono Rp_s2 hle17
          have hA20 := At.mono hA20 hle17 (by simp)
          have hA23 := At.mono hA23 hle17 (by simp)
          rcases condE hy10 with ⟨hc24, hy10⟩ | ⟨hc24, hy10⟩
          · refine WP.condT rfl hc24 ?_
            refine WP.seq ?_
            refine WP.region ?_
            refine WL.valw (R.as (v := (boo false)) rfl) ?_
            refine WL.nil ?_
            obtain rfl := Option.some.inj hy10
            obtain rfl := hy11
            obtain rfl := Option.some.inj h
            refine WP.ret (Out.one rfl S rfl ?_)
            exact rfl
          · refine WP.condF rfl hc24 ?_
            refine WP.skip ?_
            refine WP.region ?_
            refine WL.valw (R.add h7 rfl) ?_
            refine WL.valw (R.mv (v := (int (wr (y_6 + 1)))) rfl) ?_
            refine WL.nil ?_
            obtain rfl := Option.some.inj hy10
            exact ⟨rfl, ⟨H16, h3, h4, h5, rfl, Rp_s1, Rp_s2, S⟩⟩
        · refine WP.condF rfl hc14 ?_
          refine WP.exit ?_
          obtain rfl := Option.some.inj hy10
          obtain rfl := hy11
          exact ⟨H2, S⟩
    · intro f w hM
      rcases r12 with _ | e
      · obtain ⟨H8, S⟩ := hM
        refine WP.seq ?_
        refine WP.region ?_
        refine WL.valw (R.as (v := (boo true)) rfl) ?_
        refine WL.nil ?_
        obtain rfl := Option.some.inj h
        refine WP.ret (Out.one rfl S rfl ?_)
        exact rfl
      · exact hM.elim
set_option maxRecDepth 10000 in
set_option maxHeartbeats 4000000 in
theorem entry_Equal_ok {w0 : World} {H0 : Hp} (hw : Holds w0 H0) (hG : Tryd.Gl w0) (p_a : GEntry) (p_b : GEntry) {vp_a0 : Value} {vp_a1 : Value} {vp_a2 : Value} {vp_a4 : Value} {vp_b0 : Value} {vp_b1 : Value} {vp_b2 : Value} {vp_b4 : Value} (Rp_a0 : Sl (α := (List Str)) H0 vp_a0 p_a.fKeys) (Rp_a1 : Sl (α := Str) H0 vp_a1 p_a.fVary) (Rp_a2 : Sl (α := Str) H0 vp_a2 p_a.fSnapshot) (Rp_a4 : Sl (α := GField) H0 vp_a4 p_a.fFields) (Rp_b0 : Sl (α := (List Str)) H0 vp_b0 p_b.fKeys) (Rp_b1 : Sl (α := Str) H0 vp_b1 p_b.fVary) (Rp_b2 : Sl (α := Str) H0 vp_b2 p_b.fSnapshot) (Rp_b4 : Sl (α := GField) H0 vp_b4 p_b.fFields) {r : Bool} (h : entry_Equal p_a p_b = some r) :
    Con Tryd.prog 9 [(agg [vp_a0, vp_a1, vp_a2, (str p_a.fReason), vp_a4, (str p_a.fBody), (int p_a.fRequested), (int p_a.fReceived)]), (agg [vp_b0, vp_b1, vp_b2, (str p_b.fReason), vp_b4, (str p_b.fBody), (int p_b.fRequested), (int p_b.fReceived)])] w0 H0 (fun H' v => v = (boo r)) := by
  refine Con.mk (N := 59) Tryd.func9 rfl rfl (by kernel_rfl) rfl ?_
  have S := St.start hw
  refine WP.seq ?_
  refine WP.region ?_
  refine W.box [vp_a0, vp_a1, vp_a2, (str p_a.fReason), vp_a4, (str p_a.fBody), (int p_a.fRequested), (int p_a.fReceived)] S rfl rfl ?_
  intro b1 w2 S
  refine W.box [vp_b0, vp_b1, vp_b2, (str p_b.fReason), vp_b4, (str p_b.fBody), (int p_b.fRequested), (int p_b.fReceived)] S rfl rfl ?_
  intro b3 w4 S
  refine WL.valw (R.as (v := (boo false)) rfl) ?_
  refine WL.nil ?_
  refine WP.seq ?_
  refine WP.region ?_
  refine WL.valw (R.fieldB rfl fld26_0) ?_
  refine WL.valw (R.loadB (i := 1) (v := vp_a0) S rfl rfl lay22 rfl) ?_
  refine WL.valw (R.fieldB rfl fld26_0) ?_
  refine WL.valw (R.loadB (i := 0) (v := vp_b0) S rfl rfl lay22 rfl) ?_
  obtain ⟨r5, hr5, h⟩ := bindE h
  refine W.call S rfl (slices_EqualFunc_string_string_string_string_ok S.holds (hG.post S.post) p_a.fKeys p_b.fKeys entry_Equal_1 Rp_a0 Rp_b0 (fun hle hw hG x0 x1 => fun q0 q1 r h => entry_Equal_1_ok hw hG x0 x1 q0 q1 h) hr5) ?_
  rintro v6 w7 H8 hle9 S rfl
  have Rp_a0 := Sl.mono Rp_a0 hle9
  have Rp_a1 := Sl.mono Rp_a1 hle9
  have Rp_a2 := Sl.mono Rp_a2 hle9
  have Rp_a4 := Sl.mono Rp_a4 hle9
  have Rp_b0 := Sl.mono Rp_b0 hle9
  have Rp_b1 := Sl.mono Rp_b1 hle9
  have Rp_b2 := Sl.mono Rp_b2 hle9
  have Rp_b4 := Sl.mono Rp_b4 hle9
  refine WL.valw (R.mv (v := (boo r5)) rfl) ?_
  obtain ⟨b17, hg11, h⟩ := bindE h
  refine WL.grpw 6 [11, 12, 13, 14, 15] 16 (boo b17) (fun w => ∃ H' : Hp, H8.le H' ∧ St w0 H0 w H' [.box b3 26 [vp_b0, vp_b1, vp_b2, (str p_b.fReason), vp_b4, (str p_b.fBody), (int p_b.fRequested), (int p_b.fReceived)], .box b1 26 [vp_a0, vp_a1, vp_a2, (str p_a.fReason), vp_a4, (str p_a.fBody), (int p_a.fRequested), (int p_a.fReceived)]]) ?_ ?_
  · rcases boolE r5 with hb10 | hb10
    · replace hg11 := condT hg11 hb10
      refine WL.gyes rfl rfl hb10 ?_
      refine WL.valw (R.fieldB rfl fld26_1) ?_
      refine WL.gyes rfl rfl hb10 ?_
      refine WL.valw (R.loadB (i := 1) (v := vp_a1) S rfl rfl lay23 rfl) ?_
      refine WL.gyes rfl rfl hb10 ?_
      refine WL.valw (R.fieldB rfl fld26_1) ?_
      refine WL.gyes rfl rfl hb10 ?_
      refine WL.valw (R.loadB (i := 0) (v := vp_b1) S rfl rfl lay23 rfl) ?_
      refine WL.gyes rfl rfl hb10 ?_
      obtain ⟨r12, hr12, hg11⟩ := bindE hg11
      refine W.call S rfl (slices_Equal_string_string_ok S.holds (hG.post S.post) p_a.fVary p_b.fVary Rp_a1 Rp_b1 hr12) ?_
      rintro v13 w14 H15 hle16 S rfl
      have Rp_a0 := Sl.mono Rp_a0 hle16
      have Rp_a1 := Sl.mono Rp_a1 hle16
      have Rp_a2 := Sl.mono Rp_a2 hle16
      have Rp_a4 := Sl.mono Rp_a4 hle16
      have Rp_b0 := Sl.mono Rp_b0 hle16
      have Rp_b1 := Sl.mono Rp_b1 hle16
      have Rp_b2 := Sl.mono Rp_b2 hle16
      have Rp_b4 := Sl.mono Rp_b4 hle16
      refine WL.valw (R.pickT rfl hb10 rfl) ?_
      exact WL.nil ⟨(congrArg boo (Option.some.inj hg11)), (by repeat (first | refine agree_upd rfl ?_ | refine agree_upds' rfl ?_ | exact agree_refl)), ⟨H15, hle16, S⟩⟩
    · replace hg11 := condF hg11 hb10
      refine WL.gno rfl rfl hb10 ?_
      refine WL.gno rfl rfl hb10 ?_
      refine WL.gno rfl rfl hb10 ?_
      refine WL.gno rfl rfl hb10 ?_
      refine WL.gno rfl rfl hb10 ?_
      refine WL.valw (R.pickF rfl hb10 rfl) ?_
      exact WL.nil ⟨(congrArg boo (Option.some.inj hg11)), (by repeat (first | refine agree_upd rfl ?_ | refine agree_upds' rfl ?_ | exact agree_refl)), ⟨H8, (Hp.le.refl _), S⟩⟩
  · intro us w19 ⟨H18, hle20, S⟩
    have Rp_a0 := Sl.mono Rp_a0 hle20
    have Rp_a1 := Sl.mono Rp_a1 hle20
    have Rp_a2 := Sl.mono Rp_a2 hle20
    have Rp_a4 := Sl.mono Rp_a4 hle20
    have Rp_b0 := Sl.mono Rp_b0 hle20
    have Rp_b1 := Sl.mono Rp_b1 hle20
    have Rp_b2 := Sl.mono Rp_b2 hle20
    have Rp_b4 := Sl.mono Rp_b4 hle20
    refine WL.valw (R.mv (v := (boo b17)) rfl) ?_
    obtain ⟨b28, hg22, h⟩ := bindE h
    refine WL.grpw 6 [18, 19, 20, 21, 22] 23 (boo b28) (fun w => ∃ H' : Hp, H18.le H' ∧ St w0 H0 w H' [.box b3 26 [vp_b0, vp_b1, vp_b2, (str p_b.fReason), vp_b4, (str p_b.fBody), (int p_b.fRequested), (int p_b.fReceived)], .box b1 26 [vp_a0, vp_a1, vp_a2, (str p_a.fReason), vp_a4, (str p_a.fBody), (int p_a.fRequested), (int p_a.fReceived)]]) ?_ ?_
    · rcases boolE b17 with hb21 | hb21
      · replace hg22 := condT hg22 hb21
        refine WL.gyes rfl rfl hb21 ?_
        refine WL.valw (R.fieldB rfl fld26_2) ?_
        refine WL.gyes rfl rfl hb21 ?_
        refine WL.valw (R.loadB (i := 1) (v := vp_a2) S rfl rfl lay23 rfl) ?_
        refine WL.gyes rfl rfl hb21 ?_
        refine WL.valw (R.fieldB rfl fld26_2) ?_
        refine WL.gyes rfl rfl hb21 ?_
        refine WL.valw (R.loadB (i := 0) (v := vp_b2) S rfl rfl lay23 rfl) ?_
        refine WL.gyes rfl rfl hb21 ?_
        obtain ⟨r23, hr23, hg22⟩ := bindE hg22
        refine W.call S rfl (slices_Equal_string_string_ok S.holds (hG.post S.post) p_a.fSnapshot p_b.fSnapshot Rp_a2 Rp_b2 hr23) ?_
        rintro v24 w25 H26 hle27 S rfl
        have Rp_a0 := Sl.mono Rp_a0 hle27
        have Rp_a1 := Sl.mono Rp_a1 hle27
        have Rp_a2 := Sl.mono Rp_a2 hle27
        have Rp_a4 := Sl.mono Rp_a4 hle27
        have Rp_b0 := Sl.mono Rp_b0 hle27
        have Rp_b1 := Sl.mono Rp_b1 hle27
        have Rp_b2 := Sl.mono Rp_b2 hle27
        have Rp_b4 := Sl.mono Rp_b4 hle27
        refine WL.valw (R.pickT rfl hb21 rfl) ?_
        exact WL.nil ⟨(congrArg boo (Option.some.inj hg22)), (by repeat (first | refine agree_upd rfl ?_ | refine agree_upds' rfl ?_ | exact agree_refl)), ⟨H26, hle27, S⟩⟩
      · replace hg22 := condF hg22 hb21
        refine WL.gno rfl rfl hb21 ?_
        refine WL.gno rfl rfl hb21 ?_
        refine WL.gno rfl rfl hb21 ?_
        refine WL.gno rfl rfl hb21 ?_
        refine WL.gno rfl rfl hb21 ?_
        refine WL.valw (R.pickF rfl hb21 rfl) ?_
        exact WL.nil ⟨(congrArg boo (Option.some.inj hg22)), (by repeat (first | refine agree_upd rfl ?_ | refine agree_upds' rfl ?_ | exact agree_refl)), ⟨H18, (Hp.le.refl _), S⟩⟩
    · intro us w30 ⟨H29, hle31, S⟩
      have Rp_a0 := Sl.mono Rp_a0 hle31
      have Rp_a1 := Sl.mono Rp_a1 hle31
      have Rp_a2 := Sl.mono Rp_a2 hle31
      have Rp_a4 := Sl.mono Rp_a4 hle31
      have Rp_b0 := Sl.mono Rp_b0 hle31
      have Rp_b1 := Sl.mono Rp_b1 hle31
      have Rp_b2 := Sl.mono Rp_b2 hle31
      have Rp_b4 := Sl.mono Rp_b4 hle31
      refine WL.valw (R.mv (v := (boo b28)) rfl) ?_
      obtain ⟨b39, hg33, h⟩ := bindE h
      refine WL.grpw 6 [25, 26, 27, 28, 29] 30 (boo b39) (fun w => ∃ H' : Hp, H29.le H' ∧ St w0 H0 w H' [.box b3 26 [vp_b0, vp_b1, vp_b2, (str p_b.fReason), vp_b4, (str p_b.fBody), (int p_b.fRequested), (int p_b.fReceived)], .box b1 26 [vp_a0, vp_a1, vp_a2, (str p_a.fReason), vp_a4, (str p_a.fBody), (int p_a.fRequested), (int p_a.fReceived)]]) ?_ ?_
      · rcases boolE b28 with hb32 | hb32
        · replace hg33 := condT hg33 hb32
          refine WL.gyes rfl rfl hb32 ?_
          refine WL.valw (R.fieldB rfl fld26_4) ?_
          refine WL.gyes rfl rfl hb32 ?_
          refine WL.valw (R.loadB (i := 1) (v := vp_a4) S rfl rfl lay24 rfl) ?_
          refine WL.gyes rfl rfl hb32 ?_
          refine WL.valw (R.fieldB rfl fld26_4) ?_
          refine WL.gyes rfl rfl hb32 ?_
          refine WL.valw (R.loadB (i := 0) (v := vp_b4) S rfl rfl lay24 rfl) ?_
          refine WL.gyes rfl rfl hb32 ?_
          obtain ⟨r34, hr34, hg33⟩ := bindE hg33
          refine W.call S rfl (slices_Equal_api_Field_api_Field_ok S.holds (hG.post S.post) p_a.fFields p_b.fFields Rp_a4 Rp_b4 hr34) ?_
          rintro v35 w36 H37 hle38 S rfl
          have Rp_a0 := Sl.mono Rp_a0 hle38
          have Rp_a1 := Sl.mono Rp_a1 hle38
          have Rp_a2 := Sl.mono Rp_a2 hle38
          have Rp_a4 := Sl.mono Rp_a4 hle38
          have Rp_b0 := Sl.mono Rp_b0 hle38
          have Rp_b1 := Sl.mono Rp_b1 hle38
          have Rp_b2 := Sl.mono Rp_b2 hle38
          have Rp_b4 := Sl.mono Rp_b4 hle38
          refine WL.valw (R.pickT rfl hb32 rfl) ?_
          exact WL.nil ⟨(congrArg boo (Option.some.inj hg33)), (by repeat (first | refine agree_upd rfl ?_ | refine agree_upds' rfl ?_ | exact agree_refl)), ⟨H37, hle38, S⟩⟩
        · replace hg33 := condF hg33 hb32
          refine WL.gno rfl rfl hb32 ?_
          refine WL.gno rfl rfl hb32 ?_
          refine WL.gno rfl rfl hb32 ?_
          refine WL.gno rfl rfl hb32 ?_
          refine WL.gno rfl rfl hb32 ?_
          refine WL.valw (R.pickF rfl hb32 rfl) ?_
          exact WL.nil ⟨(congrArg boo (Option.some.inj hg33)), (by repeat (first | refine agree_upd rfl ?_ | refine agree_upds' rfl ?_ | exact agree_refl)), ⟨H29, (Hp.le.refl _), S⟩⟩
      · intro us w41 ⟨H40, hle42, S⟩
        have Rp_a0 := Sl.mono Rp_a0 hle42
        have Rp_a1 := Sl.mono Rp_a1 hle42
        have Rp_a2 := Sl.mono Rp_a2 hle42
        have Rp_a4 := Sl.mono Rp_a4 hle42
        have Rp_b0 := Sl.mono Rp_b0 hle42
        have Rp_b1 := Sl.mono Rp_b1 hle42
        have Rp_b2 := Sl.mono Rp_b2 hle42
        have Rp_b4 := Sl.mono Rp_b4 hle42
        refine WL.valw (R.mv (v := (boo b39)) rfl) ?_
        refine WL.grp 6 [32, 33, 34, 35, 36] 37 (boo (b39 && (p_a.fReason == p_b.fReason))) ?_ ?_
        · rcases boolE b39 with hb43 | hb43
          · refine WL.gyes rfl rfl hb43 ?_
            refine WL.valw (R.fieldB rfl fld26_3) ?_
            refine WL.gyes rfl rfl hb43 ?_
            refine WL.valw (R.loadB (i := 1) (v := (str p_a.fReason)) S rfl rfl lay9 rfl) ?_
            refine WL.gyes rfl rfl hb43 ?_
            refine WL.valw (R.fieldB rfl fld26_3) ?_
            refine WL.gyes rfl rfl hb43 ?_
            refine WL.valw (R.loadB (i := 0) (v := (str p_b.fReason)) S rfl rfl lay9 rfl) ?_
            refine WL.gyes rfl rfl hb43 ?_
            refine WL.valw (R.eqlS (a := p_a.fReason) (b := p_b.fReason) rfl rfl) ?_
            refine WL.valw (R.pickT rfl hb43 rfl) ?_
            exact WL.nil ⟨(andT hb43), (by repeat (first | refine agree_upd rfl ?_ | refine agree_upds' rfl ?_ | exact agree_refl)), rfl⟩
          · refine WL.gno rfl rfl hb43 ?_
            refine WL.gno rfl rfl hb43 ?_
            refine WL.gno rfl rfl hb43 ?_
            refine WL.gno rfl rfl hb43 ?_
            refine WL.gno rfl rfl hb43 ?_
            refine WL.valw (R.pickF rfl hb43 rfl) ?_
            exact WL.nil ⟨(andF hb43), (by repeat (first | refine agree_upd rfl ?_ | refine agree_upds' rfl ?_ | exact agree_refl)), rfl⟩
        · intro us
          refine WL.valw (R.mv (v := (boo (b39 && (p_a.fReason == p_b.fReason)))) rfl) ?_
          refine WL.grp 6 [39, 40, 41, 42, 43] 44 (boo ((b39 && (p_a.fReason == p_b.fReason)) && (p_a.fBody == p_b.fBody))) ?_ ?_
          · rcases boolE (b39 && (p_a.fReason == p_b.fReason)) with hb45 | hb45
            · refine WL.gyes rfl rfl hb45 ?_
              refine WL.valw (R.fieldB rfl fld26_5) ?_
              refine WL.gyes rfl rfl hb45 ?_
              refine WL.valw (R.loadB (i := 1) (v := (str p_a.fBody)) S rfl rfl lay9 rfl) ?_
              refine WL.gyes rfl rfl hb45 ?_
              refine WL.valw (R.fieldB rfl fld26_5) ?_
              refine WL.gyes rfl rfl hb45 ?_
              refine WL.valw (R.loadB (i := 0) (v := (str p_b.fBody)) S rfl rfl lay9 rfl) ?_
              refine WL.gyes rfl rfl hb45 ?_
              refine WL.valw (R.eqlS (a := p_a.fBody) (b := p_b.fBody) rfl rfl) ?_
              refine WL.valw (R.pickT rfl hb45 rfl) ?_
              exact WL.nil ⟨(andT hb45), (by repeat (first | refine agree_upd rfl ?_ | refine agree_upds' rfl ?_ | exact agree_refl)), rfl⟩
            · refine WL.gno rfl rfl hb45 ?_
              refine WL.gno rfl rfl hb45 ?_
              refine WL.gno rfl rfl hb45 ?_
              refine WL.gno rfl rfl hb45 ?_
              refine WL.gno rfl rfl hb45 ?_
              refine WL.valw (R.pickF rfl hb45 rfl) ?_
              exact WL.nil ⟨(andF hb45), (by repeat (first | refine agree_upd rfl ?_ | refine agree_upds' rfl ?_ | exact agree_refl)), rfl⟩
          · intro us
            refine WL.valw (R.mv (v := (boo ((b39 && (p_a.fReason == p_b.fReason)) && (p_a.fBody == p_b.fBody)))) rfl) ?_
            refine WL.grp 6 [46, 47, 48, 49, 50] 51 (boo (((b39 && (p_a.fReason == p_b.fReason)) && (p_a.fBody == p_b.fBody)) && (p_a.fRequested == p_b.fRequested))) ?_ ?_
            · rcases boolE ((b39 && (p_a.fReason == p_b.fReason)) && (p_a.fBody == p_b.fBody)) with hb47 | hb47
              · refine WL.gyes rfl rfl hb47 ?_
                refine WL.valw (R.fieldB rfl fld26_6) ?_
                refine WL.gyes rfl rfl hb47 ?_
                refine WL.valw (R.loadB (i := 1) (v := (int p_a.fRequested)) S rfl rfl lay2 rfl) ?_
                refine WL.gyes rfl rfl hb47 ?_
                refine WL.valw (R.fieldB rfl fld26_6) ?_
                refine WL.gyes rfl rfl hb47 ?_
                refine WL.valw (R.loadB (i := 0) (v := (int p_b.fRequested)) S rfl rfl lay2 rfl) ?_
                refine WL.gyes rfl rfl hb47 ?_
                refine WL.valw (R.eql rfl rfl) ?_
                refine WL.valw (R.pickT rfl hb47 rfl) ?_
                exact WL.nil ⟨(andT hb47), (by repeat (first | refine agree_upd rfl ?_ | refine agree_upds' rfl ?_ | exact agree_refl)), rfl⟩
              · refine WL.gno rfl rfl hb47 ?_
                refine WL.gno rfl rfl hb47 ?_
                refine WL.gno rfl rfl hb47 ?_
                refine WL.gno rfl rfl hb47 ?_
                refine WL.gno rfl rfl hb47 ?_
                refine WL.valw (R.pickF rfl hb47 rfl) ?_
                exact WL.nil ⟨(andF hb47), (by repeat (first | refine agree_upd rfl ?_ | refine agree_upds' rfl ?_ | exact agree_refl)), rfl⟩
            · intro us
              refine WL.valw (R.mv (v := (boo (((b39 && (p_a.fReason == p_b.fReason)) && (p_a.fBody == p_b.fBody)) && (p_a.fRequested == p_b.fRequested)))) rfl) ?_
              refine WL.grp 6 [53, 54, 55, 56, 57] 58 (boo ((((b39 && (p_a.fReason == p_b.fReason)) && (p_a.fBody == p_b.fBody)) && (p_a.fRequested == p_b.fRequested)) && (p_a.fReceived == p_b.fReceived))) ?_ ?_
              · rcases boolE (((b39 && (p_a.fReason == p_b.fReason)) && (p_a.fBody == p_b.fBody)) && (p_a.fRequested == p_b.fRequested)) with hb49 | hb49
                · refine WL.gyes rfl rfl hb49 ?_
                  refine WL.valw (R.fieldB rfl fld26_7) ?_
                  refine WL.gyes rfl rfl hb49 ?_
                  refine WL.valw (R.loadB (i := 1) (v := (int p_a.fReceived)) S rfl rfl lay2 rfl) ?_
                  refine WL.gyes rfl rfl hb49 ?_
                  refine WL.valw (R.fieldB rfl fld26_7) ?_
                  refine WL.gyes rfl rfl hb49 ?_
                  refine WL.valw (R.loadB (i := 0) (v := (int p_b.fReceived)) S rfl rfl lay2 rfl) ?_
                  refine WL.gyes rfl rfl hb49 ?_
                  refine WL.valw (R.eql rfl rfl) ?_
                  refine WL.valw (R.pickT rfl hb49 rfl) ?_
                  exact WL.nil ⟨(andT hb49), (by repeat (first | refine agree_upd rfl ?_ | refine agree_upds' rfl ?_ | exact agree_refl)), rfl⟩
                · refine WL.gno rfl rfl hb49 ?_
                  refine WL.gno rfl rfl hb49 ?_
                  refine WL.gno rfl rfl hb49 ?_
                  refine WL.gno rfl rfl hb49 ?_
                  refine WL.gno rfl rfl hb49 ?_
                  refine WL.valw (R.pickF rfl hb49 rfl) ?_
                  exact WL.nil ⟨(andF hb49), (by repeat (first | refine agree_upd rfl ?_ | refine agree_upds' rfl ?_ | exact agree_refl)), rfl⟩
              · intro us
                refine WL.valw (R.as (v := (boo ((((b39 && (p_a.fReason == p_b.fReason)) && (p_a.fBody == p_b.fBody)) && (p_a.fRequested == p_b.fRequested)) && (p_a.fReceived == p_b.fReceived)))) rfl) ?_
                refine WL.nil ?_
                obtain rfl := Option.some.inj h
                refine WP.ret (Out.one rfl S rfl ?_)
                exact rfl
end Go.Proofs
