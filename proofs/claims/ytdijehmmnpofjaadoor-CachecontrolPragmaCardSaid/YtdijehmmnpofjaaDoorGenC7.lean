/- A part of the proof of laws of the seat: written by program over the translation. -/
import Derived.Test.YtdijehmmnpofjaaDoorGenC6
namespace Go.Proofs
open Go.Eng Go.Eng.Pure
set_option linter.unusedVariables false
set_option maxRecDepth 10000 in
set_option maxHeartbeats 4000000 in
theorem date_Parse_ok {w0 : World} {H0 : Hp} (hw : Holds w0 H0) (p_ppend : Str) {r : (Int × Bool)} (h : date_Parse p_ppend = some r) :
    Con Tryd.prog 70 [(str p_ppend)] w0 H0 (fun H' v => v = (.tuple ⟨[(int r.1), (boo r.2)]⟩)) := by
  refine Con.mk (N := 122) Tryd.func70 rfl rfl (by kernel_rfl) rfl ?_
  have S := St.start hw
  refine WP.seq ?_
  refine WP.region ?_
  refine WL.valw (R.as (v := (int 0)) rfl) ?_
  refine WL.valw (R.as (v := (boo false)) rfl) ?_
  refine WL.nil ?_
  refine WP.seq ?_
  refine WP.seq ?_
  refine WP.region ?_
  refine WL.valw (R.mv (v := (str p_ppend)) rfl) ?_
  refine WL.valw (R.lenS (a := p_ppend) rfl Tryd.underlying9) ?_
  refine WL.valw (R.neq rfl rfl) ?_
  refine WL.valw (R.mv (v := (boo ((p_ppend.length : Int) != 29))) rfl) ?_
  obtain ⟨b4, hg2, h⟩ := bindE h
  refine WL.grp 4 [14, 15, 16] 17 (boo b4) ?_ ?_
  · rcases boolE ((p_ppend.length : Int) != 29) with hb1 | hb1
    · replace hg2 := condT hg2 hb1
      refine WL.gno rfl rfl hb1 ?_
      refine WL.gno rfl rfl hb1 ?_
      refine WL.gno rfl rfl hb1 ?_
      refine WL.valw (R.pickT rfl hb1 rfl) ?_
      exact WL.nil ⟨(congrArg boo (Option.some.inj hg2)), (by repeat (first | refine agree_upd rfl ?_ | refine agree_upds' rfl ?_ | exact agree_refl)), rfl⟩
    · replace hg2 := condF hg2 hb1
      refine WL.gyes rfl rfl hb1 ?_
      refine WL.valw (R.mv (v := (str p_ppend)) rfl) ?_
      refine WL.gyes rfl rfl hb1 ?_
      obtain ⟨s3, hs3, hg2⟩ := bindE hg2
      refine WL.valw (R.subS rfl rfl rfl Tryd.underlying9 hs3) ?_
      refine WL.gyes rfl rfl hb1 ?_
      refine WL.valw (R.neqS (a := s3) (b := [44, 32]) rfl rfl) ?_
      refine WL.valw (R.pickF rfl hb1 rfl) ?_
      exact WL.nil ⟨(congrArg boo (Option.some.inj hg2)), (by repeat (first | refine agree_upd rfl ?_ | refine agree_upds' rfl ?_ | exact agree_refl)), rfl⟩
  · intro us
    refine WL.valw (R.mv (v := (boo b4)) rfl) ?_
    obtain ⟨b8, hg6, h⟩ := bindE h
    refine WL.grp 4 [19, 20, 21] 22 (boo b8) ?_ ?_
    · rcases boolE b4 with hb5 | hb5
      · replace hg6 := condT hg6 hb5
        refine WL.gno rfl rfl hb5 ?_
        refine WL.gno rfl rfl hb5 ?_
        refine WL.gno rfl rfl hb5 ?_
        refine WL.valw (R.pickT rfl hb5 rfl) ?_
        exact WL.nil ⟨(congrArg boo (Option.some.inj hg6)), (by repeat (first | refine agree_upd rfl ?_ | refine agree_upds' rfl ?_ | exact agree_refl)), rfl⟩
      · replace hg6 := condF hg6 hb5
        refine WL.gyes rfl rfl hb5 ?_
        refine WL.valw (R.mv (v := (str p_ppend)) rfl) ?_
        refine WL.gyes rfl rfl hb5 ?_
        obtain ⟨c7, hc7, hg6⟩ := bindE hg6
        refine WL.valw (R.idxS rfl rfl Tryd.underlying9 hc7) ?_
        refine WL.gyes rfl rfl hb5 ?_
        refine WL.valw (R.neq8 (a := c7) (b := 32) rfl rfl) ?_
        refine WL.valw (R.pickF rfl hb5 rfl) ?_
        exact WL.nil ⟨(congrArg boo (Option.some.inj hg6)), (by repeat (first | refine agree_upd rfl ?_ | refine agree_upds' rfl ?_ | exact agree_refl)), rfl⟩
    · intro us
      refine WL.valw (R.mv (v := (boo b8)) rfl) ?_
      obtain ⟨b12, hg10, h⟩ := bindE h
      refine WL.grp 4 [24, 25, 26] 27 (boo b12) ?_ ?_
      · rcases boolE b8 with hb9 | hb9
        · replace hg10 := condT hg10 hb9
          refine WL.gno rfl rfl hb9 ?_
          refine WL.gno rfl rfl hb9 ?_
          refine WL.gno rfl rfl hb9 ?_
          refine WL.valw (R.pickT rfl hb9 rfl) ?_
          exact WL.nil ⟨(congrArg boo (Option.some.inj hg10)), (by repeat (first | refine agree_upd rfl ?_ | refine agree_upds' rfl ?_ | exact agree_refl)), rfl⟩
        · replace hg10 := condF hg10 hb9
          refine WL.gyes rfl rfl hb9 ?_
          refine WL.valw (R.mv (v := (str p_ppend)) rfl) ?_
          refine WL.gyes rfl rfl hb9 ?_
          obtain ⟨c11, hc11, hg10⟩ := bindE hg10
          refine WL.valw (R.idxS rfl rfl Tryd.underlying9 hc11) ?_
          refine WL.gyes rfl rfl hb9 ?_
          refine WL.valw (R.neq8 (a := c11) (b := 32) rfl rfl) ?_
          refine WL.valw (R.pickF rfl hb9 rfl) ?_
          exact WL.nil ⟨(congrArg boo (Option.some.inj hg10)), (by repeat (first | refine agree_upd rfl ?_ | refine agree_upds' rfl ?_ | exact agree_refl)), rfl⟩
      · intro us
        refine WL.valw (R.mv (v := (boo b12)) rfl) ?_
        obtain ⟨b16, hg14, h⟩ := bindE h
        refine WL.grp 4 [29, 30, 31] 32 (boo b16) ?_ ?_
        · rcases boolE b12 with hb13 | hb13
          · replace hg14 := condT hg14 hb13
            refine WL.gno rfl rfl hb13 ?_
            refine WL.gno rfl rfl hb13 ?_
            refine WL.gno rfl rfl hb13 ?_
            refine WL.valw (R.pickT rfl hb13 rfl) ?_
            exact WL.nil ⟨(congrArg boo (Option.some.inj hg14)), (by repeat (first | refine agree_upd rfl ?_ | refine agree_upds' rfl ?_ | exact agree_refl)), rfl⟩
          · replace hg14 := condF hg14 hb13
            refine WL.gyes rfl rfl hb13 ?_
            refine WL.valw (R.mv (v := (str p_ppend)) rfl) ?_
            refine WL.gyes rfl rfl hb13 ?_
            obtain ⟨c15, hc15, hg14⟩ := bindE hg14
            refine WL.valw (R.idxS rfl rfl Tryd.underlying9 hc15) ?_
            refine WL.gyes rfl rfl hb13 ?_
            refine WL.valw (R.neq8 (a := c15) (b := 32) rfl rfl) ?_
            refine WL.valw (R.pickF rfl hb13 rfl) ?_
            exact WL.nil ⟨(congrArg boo (Option.some.inj hg14)), (by repeat (first | refine agree_upd rfl ?_ | refine agree_upds' rfl ?_ | exact agree_refl)), rfl⟩
        · intro us
          refine WL.valw (R.mv (v := (boo b16)) rfl) ?_
          obtain ⟨b20, hg18, h⟩ := bindE h
          refine WL.grp 4 [34, 35, 36] 37 (boo b20) ?_ ?_
          · rcases boolE b16 with hb17 | hb17
            · replace hg18 := condT hg18 hb17
              refine WL.gno rfl rfl hb17 ?_
              refine WL.gno rfl rfl hb17 ?_
              refine WL.gno rfl rfl hb17 ?_
              refine WL.valw (R.pickT rfl hb17 rfl) ?_
              exact WL.nil ⟨(congrArg boo (Option.some.inj hg18)), (by repeat (first | refine agree_upd rfl ?_ | refine agree_upds' rfl ?_ | exact agree_refl)), rfl⟩
            · replace hg18 := condF hg18 hb17
              refine WL.gyes rfl rfl hb17 ?_
              refine WL.valw (R.mv (v := (str p_ppend)) rfl) ?_
              refine WL.gyes rfl rfl hb17 ?_
              obtain ⟨c19, hc19, hg18⟩ := bindE hg18
              refine WL.valw (R.idxS rfl rfl Tryd.underlying9 hc19) ?_
              refine WL.gyes rfl rfl hb17 ?_
              refine WL.valw (R.neq8 (a := c19) (b := 58) rfl rfl) ?_
              refine WL.valw (R.pickF rfl hb17 rfl) ?_
              exact WL.nil ⟨(congrArg boo (Option.some.inj hg18)), (by repeat (first | refine agree_upd rfl ?_ | refine agree_upds' rfl ?_ | exact agree_refl)), rfl⟩
          · intro us
            refine WL.valw (R.mv (v := (boo b20)) rfl) ?_
            obtain ⟨b24, hg22, h⟩ := bindE h
            refine WL.grp 4 [39, 40, 41] 42 (boo b24) ?_ ?_
            · rcases boolE b20 with hb21 | hb21
              · replace hg22 := condT hg22 hb21
                refine WL.gno rfl rfl hb21 ?_
                refine WL.gno rfl rfl hb21 ?_
                refine WL.gno rfl rfl hb21 ?_
                refine WL.valw (R.pickT rfl hb21 rfl) ?_
                exact WL.nil ⟨(congrArg boo (Option.some.inj hg22)), (by repeat (first | refine agree_upd rfl ?_ | refine agree_upds' rfl ?_ | exact agree_refl)), rfl⟩
              · replace hg22 := condF hg22 hb21
                refine WL.gyes rfl rfl hb21 ?_
                refine WL.valw (R.mv (v := (str p_ppend)) rfl) ?_
                refine WL.gyes rfl rfl hb21 ?_
                obtain ⟨c23, hc23, hg22⟩ := bindE hg22
                refine WL.valw (R.idxS rfl rfl Tryd.underlying9 hc23) ?_
                refine WL.gyes rfl rfl hb21 ?_
                refine WL.valw (R.neq8 (a := c23) (b := 58) rfl rfl) ?_
                refine WL.valw (R.pickF rfl hb21 rfl) ?_
                exact WL.nil ⟨(congrArg boo (Option.some.inj hg22)), (by repeat (first | refine agree_upd rfl ?_ | refine agree_upds' rfl ?_ | exact agree_refl)), rfl⟩
            · intro us
              refine WL.valw (R.mv (v := (boo b24)) rfl) ?_
              obtain ⟨b28, hg26, h⟩ := bindE h
              refine WL.grp 4 [44, 45, 46] 47 (boo b28) ?_ ?_
              · rcases boolE b24 with hb25 | hb25
                · replace hg26 := condT hg26 hb25
                  refine WL.gno rfl rfl hb25 ?_
                  refine WL.gno rfl rfl hb25 ?_
                  refine WL.gno rfl rfl hb25 ?_
                  refine WL.valw (R.pickT rfl hb25 rfl) ?_
                  exact WL.nil ⟨(congrArg boo (Option.some.inj hg26)), (by repeat (first | refine agree_upd rfl ?_ | refine agree_upds' rfl ?_ | exact agree_refl)), rfl⟩
                · replace hg26 := condF hg26 hb25
                  refine WL.gyes rfl rfl hb25 ?_
                  refine WL.valw (R.mv (v := (str p_ppend)) rfl) ?_
                  refine WL.gyes rfl rfl hb25 ?_
                  obtain ⟨s27, hs27, hg26⟩ := bindE hg26
                  refine WL.valw (R.subSlo rfl rfl Tryd.underlying9 hs27) ?_
                  refine WL.gyes rfl rfl hb25 ?_
                  refine WL.valw (R.neqS (a := s27) (b := [32, 71, 77, 84]) rfl rfl) ?_
                  refine WL.valw (R.pickF rfl hb25 rfl) ?_
                  exact WL.nil ⟨(congrArg boo (Option.some.inj hg26)), (by repeat (first | refine agree_upd rfl ?_ | refine agree_upds' rfl ?_ | exact agree_refl)), rfl⟩
              · intro us
                refine WL.nil ?_
                rcases condE h with ⟨hc29, h⟩ | ⟨hc29, h⟩
                · refine WP.condT rfl hc29 ?_
                  refine WP.seq ?_
                  refine WP.region ?_
                  refine WL.valw (R.as (v := (int 0)) rfl) ?_
                  refine WL.valw (R.as (v := (boo false)) rfl) ?_
                  refine WL.nil ?_
                  obtain rfl := Option.some.inj h
                  refine WP.ret (Out.two rfl S rfl rfl ?_)
                  exact rfl
                · refine WP.condF rfl hc29 ?_
                  refine WP.skip ?_
                  refine WP.seq ?_
                  refine WP.region ?_
                  refine W.alloc [(int 0), (int 0), (int 0), (int 0), (int 0)] S zer80 ?_
                  intro b30 w31 S
                  refine WL.nil ?_
                  refine WP.seq ?_
                  refine WP.seq ?_
                  refine WP.quiet S (by kernel_rfl) (by kernel_rfl) ?_
                  refine WQ.val (fun _ _ => (R.mv (v := (str p_ppend)) rfl)) ?_
                  obtain ⟨s35, hs35, h⟩ := bindE h
                  refine WQ.val (fun _ _ => (R.subS rfl rfl rfl Tryd.underlying9 hs35)) ?_
                  refine WQ.val (fun _ _ => (R.mv (v := (str p_ppend)) rfl)) ?_
                  obtain ⟨s36, hs36, h⟩ := bindE h
                  refine WQ.val (fun _ _ => (R.subS rfl rfl rfl Tryd.underlying9 hs36)) ?_
                  refine WQ.val (fun _ _ => (R.mv (v := (str p_ppend)) rfl)) ?_
                  obtain ⟨s37, hs37, h⟩ := bindE h
                  refine WQ.val (fun _ _ => (R.subS rfl rfl rfl Tryd.underlying9 hs37)) ?_
                  refine WQ.val (fun _ _ => (R.mv (v := (str p_ppend)) rfl)) ?_
                  obtain ⟨s38, hs38, h⟩ := bindE h
                  refine WQ.val (fun _ _ => (R.subS rfl rfl rfl Tryd.underlying9 hs38)) ?_
                  refine WQ.val (fun _ _ => (R.mv (v := (str p_ppend)) rfl)) ?_
                  obtain ⟨s39, hs39, h⟩ := bindE h
                  refine WQ.val (fun _ _ => (R.subS rfl rfl rfl Tryd.underlying9 hs39)) ?_
                  refine WQ.val (fun _ _ => (R.buildArr [(0, (str s35)), (1, (str s36)), (2, (str s37)), (3, (str s38)), (4, (str s39))] [(str s35), (str s36), (str s37), (str s38), (str s39)] Tryd.underlying81 lay9 zer81 rfl rfl)) ?_
                  refine WQ.val (fun _ _ => (R.mv (v := (int 0)) rfl)) ?_
                  refine WQ.nil ?_
                  intro w32 H33 hle34 S
                  refine WP.block ?_
                  refine WP.loopRd 6 ?_
                  refine RD.succ ?_
                  refine WP.seq ?_
                  refine WP.region ?_
                  refine WL.valw (v := (boo true)) (R.ofEq (R.lss rfl rfl) rfl) ?_
                  refine WL.nil ?_
                  refine WP.seq ?_
                  refine WP.condT (b := true) rfl rfl ?_
                  refine WP.skip ?_
                  refine WP.seq ?_
                  refine WP.block ?_
                  refine WP.seq ?_
                  refine WP.region ?_
                  refine WL.valw (R.mv (v := (int 0)) rfl) ?_
                  refine WL.valw (v := (str s35)) (R.idxA str (l := ([s35, s36, s37, s38, s39] : List Str)) (c := s35) rfl rfl Tryd.underlying81 lay9 rfl rfl) ?_
                  refine WL.valw (R.as (v := (int 0)) rfl) ?_
                  refine WL.valw (R.as (v := (str s35)) rfl) ?_
                  refine WL.nil ?_
                  refine WP.seq ?_
                  refine WP.region ?_
                  refine WL.valw (R.as (v := (boo false)) rfl) ?_
                  refine WL.nil ?_
                  refine WP.seq ?_
                  refine WP.region ?_
                  refine WL.valw (R.mv (v := (int 0)) rfl) ?_
                  refine WL.valw (R.mv (v := (str s35)) rfl) ?_
                  obtain ⟨r40, hr40, h⟩ := bindE h
                  refine W.call S rfl (ascii_Number_ok S.holds s35 hr40) ?_
                  rintro v41 w42 H43 hle44 S rfl
                  refine WL.valw (R.mv (v := (.tuple ⟨[(int r40.1), (boo r40.2)]⟩)) rfl) ?_
                  refine WL.valw (R.ext rfl rfl) ?_
                  refine WL.valw (R.ext rfl rfl) ?_
                  refine WL.valw (v := (ptr b30 0)) (R.ofEq (R.idxAddrA rfl rfl Tryd.underlying80 lay3 ⟨by decide, by decide⟩) rfl) ?_
                  refine W.store (i := 0) [(int r40.1), (int 0), (int 0), (int 0), (int 0)] S rfl rfl rfl lay3 rfl rfl (Nat.le_of_ble_eq_true rfl) rfl ?_
                  intro w45 S
                  refine WL.valw (R.as (v := (boo r40.2)) rfl) ?_
                  refine WL.nil ?_
                  refine WP.seq ?_
                  refine WP.region ?_
                  refine WL.valw (R.mv (v := (boo r40.2)) rfl) ?_
                  refine WL.valw (R.not rfl) ?_
                  refine WL.nil ?_
                  rcases condE h with ⟨hc46, h⟩ | ⟨hc46, h⟩
                  · refine WP.condT rfl hc46 ?_
                    refine WP.seq ?_
                    refine WP.region ?_
                    refine WL.valw (R.as (v := (int 0)) rfl) ?_
                    refine WL.valw (R.as (v := (boo false)) rfl) ?_
                    refine WL.nil ?_
                    obtain rfl := Option.some.inj h
                    refine WP.ret (Out.two rfl S rfl rfl ?_)
                    exact rfl
                  · refine WP.condF rfl hc46 ?_
                    refine WP.skip ?_
                    refine WP.region ?_
                    refine WL.valw (v := (int 1)) (R.ofEq (R.add rfl rfl) rfl) ?_
                    refine WL.valw (R.mv (v := (int 1)) rfl) ?_
                    refine WL.nil ?_
                    refine RD.succ ?_
                    refine WP.seq ?_
                    refine WP.region ?_
                    refine WL.valw (v := (boo true)) (R.ofEq (R.lss rfl rfl) rfl) ?_
                    refine WL.nil ?_
                    refine WP.seq ?_
                    refine WP.condT (b := true) rfl rfl ?_
                    refine WP.skip ?_
                    refine WP.seq ?_
                    refine WP.block ?_
                    refine WP.seq ?_
                    refine WP.region ?_
                    refine WL.valw (R.mv (v := (int 1)) rfl) ?_
                    refine WL.valw (v := (str s36)) (R.idxA str (l := ([s35, s36, s37, s38, s39] : List Str)) (c := s36) rfl rfl Tryd.underlying81 lay9 rfl rfl) ?_
                    refine WL.valw (R.as (v := (int 1)) rfl) ?_
                    refine WL.valw (R.as (v := (str s36)) rfl) ?_
                    refine WL.nil ?_
                    refine WP.seq ?_
                    refine WP.region ?_
                    refine WL.valw (R.as (v := (boo false)) rfl) ?_
                    refine WL.nil ?_
                    refine WP.seq ?_
                    refine WP.region ?_
                    refine WL.valw (R.mv (v := (int 1)) rfl) ?_
                    refine WL.valw (R.mv (v := (str s36)) rfl) ?_
                    obtain ⟨r47, hr47, h⟩ := bindE h
                    refine W.call S rfl (ascii_Number_ok S.holds s36 hr47) ?_
                    rintro v48 w49 H50 hle51 S rfl
                    refine WL.valw (R.mv (v := (.tuple ⟨[(int r47.1), (boo r47.2)]⟩)) rfl) ?_
                    refine WL.valw (R.ext rfl rfl) ?_
                    refine WL.valw (R.ext rfl rfl) ?_
                    refine WL.valw (v := (ptr b30 1)) (R.ofEq (R.idxAddrA rfl rfl Tryd.underlying80 lay3 ⟨by decide, by decide⟩) rfl) ?_
                    refine W.store (i := 0) [(int r40.1), (int r47.1), (int 0), (int 0), (int 0)] S rfl rfl rfl lay3 rfl rfl (Nat.le_of_ble_eq_true rfl) rfl ?_
                    intro w52 S
                    refine WL.valw (R.as (v := (boo r47.2)) rfl) ?_
                    refine WL.nil ?_
                    refine WP.seq ?_
                    refine WP.region ?_
                    refine WL.valw (R.mv (v := (boo r47.2)) rfl) ?_
                    refine WL.valw (R.not rfl) ?_
                    refine WL.nil ?_
                    rcases condE h with ⟨hc53, h⟩ | ⟨hc53, h⟩
                    · refine WP.condT rfl hc53 ?_
                      refine WP.seq ?_
                      refine WP.region ?_
                      refine WL.valw (R.as (v := (int 0)) rfl) ?_
                      refine WL.valw (R.as (v := (boo false)) rfl) ?_
                      refine WL.nil ?_
                      obtain rfl := Option.some.inj h
                      refine WP.ret (Out.two rfl S rfl rfl ?_)
                      exact rfl
                    · refine WP.condF rfl hc53 ?_
                      refine WP.skip ?_
                      refine WP.region ?_
                      refine WL.valw (v := (int 2)) (R.ofEq (R.add rfl rfl) rfl) ?_
                      refine WL.valw (R.mv (v := (int 2)) rfl) ?_
                      refine WL.nil ?_
                      refine RD.succ ?_
                      refine WP.seq ?_
                      refine WP.region ?_
                      refine WL.valw (v := (boo true)) (R.ofEq (R.lss rfl rfl) rfl) ?_
                      refine WL.nil ?_
                      refine WP.seq ?_
                      refine WP.condT (b := true) rfl rfl ?_
                      refine WP.skip ?_
                      refine WP.seq ?_
                      refine WP.block ?_
                      refine WP.seq ?_
                      refine WP.region ?_
                      refine WL.valw (R.mv (v := (int 2)) rfl) ?_
                      refine WL.valw (v := (str s37)) (R.idxA str (l := ([s35, s36, s37, s38, s39] : List Str)) (c := s37) rfl rfl Tryd.underlying81 lay9 rfl rfl) ?_
                      refine WL.valw (R.as (v := (int 2)) rfl) ?_
                      refine WL.valw (R.as (v := (str s37)) rfl) ?_
                      refine WL.nil ?_
                      refine WP.seq ?_
                      refine WP.region ?_
                      refine WL.valw (R.as (v := (boo false)) rfl) ?_
                      refine WL.nil ?_
                      refine WP.seq ?_
                      refine WP.region ?_
                      refine WL.valw (R.mv (v := (int 2)) rfl) ?_
                      refine WL.valw (R.mv (v := (str s37)) rfl) ?_
                      obtain ⟨r54, hr54, h⟩ := bindE h
                      refine W.call S rfl (ascii_Number_ok S.holds s37 hr54) ?_
                      rintro v55 w56 H57 hle58 S rfl
                      refine WL.valw (R.mv (v := (.tuple ⟨[(int r54.1), (boo r54.2)]⟩)) rfl) ?_
                      refine WL.valw (R.ext rfl rfl) ?_
                      refine WL.valw (R.ext rfl rfl) ?_
                      refine WL.valw (v := (ptr b30 2)) (R.ofEq (R.idxAddrA rfl rfl Tryd.underlying80 lay3 ⟨by decide, by decide⟩) rfl) ?_
                      refine W.store (i := 0) [(int r40.1), (int r47.1), (int r54.1), (int 0), (int 0)] S rfl rfl rfl lay3 rfl rfl (Nat.le_of_ble_eq_true rfl) rfl ?_
                      intro w59 S
                      refine WL.valw (R.as (v := (boo r54.2)) rfl) ?_
                      refine WL.nil ?_
                      refine WP.seq ?_
                      refine WP.region ?_
                      refine WL.valw (R.mv (v := (boo r54.2)) rfl) ?_
                      refine WL.valw (R.not rfl) ?_
                      refine WL.nil ?_
                      rcases condE h with ⟨hc60, h⟩ | ⟨hc60, h⟩
                      · refine WP.condT rfl hc60 ?_
                        refine WP.seq ?_
                        refine WP.region ?_
                        refine WL.valw (R.as (v := (int 0)) rfl) ?_
                        refine WL.valw (R.as (v := (boo false)) rfl) ?_
                        refine WL.nil ?_
                        obtain rfl := Option.some.inj h
                        refine WP.ret (Out.two rfl S rfl rfl ?_)
                        exact rfl
                      · refine WP.condF rfl hc60 ?_
                        refine WP.skip ?_
                        refine WP.region ?_
                        refine WL.valw (v := (int 3)) (R.ofEq (R.add rfl rfl) rfl) ?_
                        refine WL.valw (R.mv (v := (int 3)) rfl) ?_
                        refine WL.nil ?_
                        refine RD.succ ?_
                        refine WP.seq ?_
                        refine WP.region ?_
                        refine WL.valw (v := (boo true)) (R.ofEq (R.lss rfl rfl) rfl) ?_
                        refine WL.nil ?_
                        refine WP.seq ?_
                        refine WP.condT (b := true) rfl rfl ?_
                        refine WP.skip ?_
                        refine WP.seq ?_
                        refine WP.block ?_
                        refine WP.seq ?_
                        refine WP.region ?_
                        refine WL.valw (R.mv (v := (int 3)) rfl) ?_
                        refine WL.valw (v := (str s38)) (R.idxA str (l := ([s35, s36, s37, s38, s39] : List Str)) (c := s38) rfl rfl Tryd.underlying81 lay9 rfl rfl) ?_
                        refine WL.valw (R.as (v := (int 3)) rfl) ?_
                        refine WL.valw (R.as (v := (str s38)) rfl) ?_
                        refine WL.nil ?_
                        refine WP.seq ?_
                        refine WP.region ?_
                        refine WL.valw (R.as (v := (boo false)) rfl) ?_
                        refine WL.nil ?_
                        refine WP.seq ?_
                        refine WP.region ?_
                        refine WL.valw (R.mv (v := (int 3)) rfl) ?_
                        refine WL.valw (R.mv (v := (str s38)) rfl) ?_
                        obtain ⟨r61, hr61, h⟩ := bindE h
                        refine W.call S rfl (ascii_Number_ok S.holds s38 hr61) ?_
                        rintro v62 w63 H64 hle65 S rfl
                        refine WL.valw (R.mv (v := (.tuple ⟨[(int r61.1), (boo r61.2)]⟩)) rfl) ?_
                        refine WL.valw (R.ext rfl rfl) ?_
                        refine WL.valw (R.ext rfl rfl) ?_
                        refine WL.valw (v := (ptr b30 3)) (R.ofEq (R.idxAddrA rfl rfl Tryd.underlying80 lay3 ⟨by decide, by decide⟩) rfl) ?_
                        refine W.store (i := 0) [(int r40.1), (int r47.1), (int r54.1), (int r61.1), (int 0)] S rfl rfl rfl lay3 rfl rfl (Nat.le_of_ble_eq_true rfl) rfl ?_
                        intro w66 S
                        refine WL.valw (R.as (v := (boo r61.2)) rfl) ?_
                        refine WL.nil ?_
                        refine WP.seq ?_
                        refine WP.region ?_
                        refine WL.valw (R.mv (v := (boo r61.2)) rfl) ?_
                        refine WL.valw (R.not rfl) ?_
                        refine WL.nil ?_
                        rcases condE h with ⟨hc67, h⟩ | ⟨hc67, h⟩
                        · refine WP.condT rfl hc67 ?_
                          refine WP.seq ?_
                          refine WP.region ?_
                          refine WL.valw (R.as (v := (int 0)) rfl) ?_
                          refine WL.valw (R.as (v := (boo false)) rfl) ?_
                          refine WL.nil ?_
                          obtain rfl := Option.some.inj h
                          refine WP.ret (Out.two rfl S rfl rfl ?_)
                          exact rfl
                        · refine WP.condF rfl hc67 ?_
                          refine WP.skip ?_
                          refine WP.region ?_
                          refine WL.valw (v := (int 4)) (R.ofEq (R.add rfl rfl) rfl) ?_
                          refine WL.valw (R.mv (v := (int 4)) rfl) ?_
                          refine WL.nil ?_
                          refine RD.succ ?_
                          refine WP.seq ?_
                          refine WP.region ?_
                          refine WL.valw (v := (boo true)) (R.ofEq (R.lss rfl rfl) rfl) ?_
                          refine WL.nil ?_
                          refine WP.seq ?_
                          refine WP.condT (b := true) rfl rfl ?_
                          refine WP.skip ?_
                          refine WP.seq ?_
                          refine WP.block ?_
                          refine WP.seq ?_
                          refine WP.region ?_
                          refine WL.valw (R.mv (v := (int 4)) rfl) ?_
                          refine WL.valw (v := (str s39)) (R.idxA str (l := ([s35, s36, s37, s38, s39] : List Str)) (c := s39) rfl rfl Tryd.underlying81 lay9 rfl rfl) ?_
                          refine WL.valw (R.as (v := (int 4)) rfl) ?_
                          refine WL.valw (R.as (v := (str s39)) rfl) ?_
                          refine WL.nil ?_
                          refine WP.seq ?_
                          refine WP.region ?_
                          refine WL.valw (R.as (v := (boo false)) rfl) ?_
                          refine WL.nil ?_
                          refine WP.seq ?_
                          refine WP.region ?_
                          refine WL.valw (R.mv (v := (int 4)) rfl) ?_
                          refine WL.valw (R.mv (v := (str s39)) rfl) ?_
                          obtain ⟨r68, hr68, h⟩ := bindE h
                          refine W.call S rfl (ascii_Number_ok S.holds s39 hr68) ?_
                          rintro v69 w70 H71 hle72 S rfl
                          refine WL.valw (R.mv (v := (.tuple ⟨[(int r68.1), (boo r68.2)]⟩)) rfl) ?_
                          refine WL.valw (R.ext rfl rfl) ?_
                          refine WL.valw (R.ext rfl rfl) ?_
                          refine WL.valw (v := (ptr b30 4)) (R.ofEq (R.idxAddrA rfl rfl Tryd.underlying80 lay3 ⟨by decide, by decide⟩) rfl) ?_
                          refine W.store (i := 0) [(int r40.1), (int r47.1), (int r54.1), (int r61.1), (int r68.1)] S rfl rfl rfl lay3 rfl rfl (Nat.le_of_ble_eq_true rfl) rfl ?_
                          intro w73 S
                          refine WL.valw (R.as (v := (boo r68.2)) rfl) ?_
                          refine WL.nil ?_
                          refine WP.seq ?_
                          refine WP.region ?_
                          refine WL.valw (R.mv (v := (boo r68.2)) rfl) ?_
                          refine WL.valw (R.not rfl) ?_
                          refine WL.nil ?_
                          rcases condE h with ⟨hc74, h⟩ | ⟨hc74, h⟩
                          · refine WP.condT rfl hc74 ?_
                            refine WP.seq ?_
                            refine WP.region ?_
                            refine WL.valw (R.as (v := (int 0)) rfl) ?_
                            refine WL.valw (R.as (v := (boo false)) rfl) ?_
                            refine WL.nil ?_
                            obtain rfl := Option.some.inj h
                            refine WP.ret (Out.two rfl S rfl rfl ?_)
                            exact rfl
                          · refine WP.condF rfl hc74 ?_
                            refine WP.skip ?_
                            refine WP.region ?_
                            refine WL.valw (v := (int 5)) (R.ofEq (R.add rfl rfl) rfl) ?_
                            refine WL.valw (R.mv (v := (int 5)) rfl) ?_
                            refine WL.nil ?_
                            refine RD.succ ?_
                            refine WP.seq ?_
                            refine WP.region ?_
                            refine WL.valw (v := (boo false)) (R.ofEq (R.lss rfl rfl) rfl) ?_
                            refine WL.nil ?_
                            refine WP.seq ?_
                            refine WP.condF (b := false) rfl rfl ?_
                            refine WP.exit ?_
                            refine WP.seq ?_
                            refine WP.region ?_
                            refine WL.valw (R.mv (v := (str p_ppend)) rfl) ?_
                            obtain ⟨s75, hs75, h⟩ := bindE h
                            refine WL.valw (R.subS rfl rfl rfl Tryd.underlying9 hs75) ?_
                            obtain ⟨r76, hr76, h⟩ := bindE h
                            refine W.call S rfl (date_index_ok S.holds 12 date_monthName s75 (fun hle hw x0 r h => date_monthName_ok hw x0 h) hr76) ?_
                            rintro v77 w78 H79 hle80 S rfl
                            refine WL.valw (R.add rfl rfl) ?_
                            refine WL.valw (R.as (v := (int (wr (r76 + 1)))) rfl) ?_
                            refine WL.nil ?_
                            refine WP.seq ?_
                            refine WP.region ?_
                            refine WL.valw (v := (ptr b30 1)) (R.ofEq (R.idxAddrA rfl rfl Tryd.underlying80 lay3 ⟨by decide, by decide⟩) rfl) ?_
                            refine WL.valw (R.loadB (i := 0) (v := (int r47.1)) S rfl rfl lay3 rfl) ?_
                            refine WL.valw (R.mv (v := (int (wr (r76 + 1)))) rfl) ?_
                            refine WL.valw (v := (ptr b30 0)) (R.ofEq (R.idxAddrA rfl rfl Tryd.underlying80 lay3 ⟨by decide, by decide⟩) rfl) ?_
                            refine WL.valw (R.loadB (i := 0) (v := (int r40.1)) S rfl rfl lay3 rfl) ?_
                            obtain ⟨r81, hr81, h⟩ := bindE h
                            refine W.call S rfl (date_Days_ok S.holds r47.1 (wr (r76 + 1)) r40.1 hr81) ?_
                            rintro v82 w83 H84 hle85 S rfl
                            refine WL.valw (R.as (v := (int r81)) rfl) ?_
                            refine WL.nil ?_
                            refine WP.seq ?_
                            refine WP.seq ?_
                            refine WP.region ?_
                            refine WL.valw (R.mv (v := (int r81)) rfl) ?_
                            refine WL.valw (R.lss rfl rfl) ?_
                            refine WL.valw (R.mv (v := (boo (decide (r81 < 0)))) rfl) ?_
                            refine WL.grp 4 [86, 87, 88] 89 (boo ((decide (r81 < 0)) || (decide (23 < r54.1)))) ?_ ?_
                            · rcases boolE (decide (r81 < 0)) with hb86 | hb86
                              · refine WL.gno rfl rfl hb86 ?_
                                refine WL.gno rfl rfl hb86 ?_
                                refine WL.gno rfl rfl hb86 ?_
                                refine WL.valw (R.pickT rfl hb86 rfl) ?_
                                exact WL.nil ⟨(orT hb86), (by repeat (first | refine agree_upd rfl ?_ | refine agree_upds' rfl ?_ | exact agree_refl)), rfl⟩
                              · refine WL.gyes rfl rfl hb86 ?_
                                refine WL.valw (v := (ptr b30 2)) (R.ofEq (R.idxAddrA rfl rfl Tryd.underlying80 lay3 ⟨by decide, by decide⟩) rfl) ?_
                                refine WL.gyes rfl rfl hb86 ?_
                                refine WL.valw (R.loadB (i := 0) (v := (int r54.1)) S rfl rfl lay3 rfl) ?_
                                refine WL.gyes rfl rfl hb86 ?_
                                refine WL.valw (R.gtr rfl rfl) ?_
                                refine WL.valw (R.pickF rfl hb86 rfl) ?_
                                exact WL.nil ⟨(orF hb86), (by repeat (first | refine agree_upd rfl ?_ | refine agree_upds' rfl ?_ | exact agree_refl)), rfl⟩
                            · intro us
                              refine WL.valw (R.mv (v := (boo ((decide (r81 < 0)) || (decide (23 < r54.1))))) rfl) ?_
                              refine WL.grp 4 [91, 92, 93] 94 (boo (((decide (r81 < 0)) || (decide (23 < r54.1))) || (decide (59 < r61.1)))) ?_ ?_
                              · rcases boolE ((decide (r81 < 0)) || (decide (23 < r54.1))) with hb88 | hb88
                                · refine WL.gno rfl rfl hb88 ?_
                                  refine WL.gno rfl rfl hb88 ?_
                                  refine WL.gno rfl rfl hb88 ?_
                                  refine WL.valw (R.pickT rfl hb88 rfl) ?_
                                  exact WL.nil ⟨(orT hb88), (by repeat (first | refine agree_upd rfl ?_ | refine agree_upds' rfl ?_ | exact agree_refl)), rfl⟩
                                · refine WL.gyes rfl rfl hb88 ?_
                                  refine WL.valw (v := (ptr b30 3)) (R.ofEq (R.idxAddrA rfl rfl Tryd.underlying80 lay3 ⟨by decide, by decide⟩) rfl) ?_
                                  refine WL.gyes rfl rfl hb88 ?_
                                  refine WL.valw (R.loadB (i := 0) (v := (int r61.1)) S rfl rfl lay3 rfl) ?_
                                  refine WL.gyes rfl rfl hb88 ?_
                                  refine WL.valw (R.gtr rfl rfl) ?_
                                  refine WL.valw (R.pickF rfl hb88 rfl) ?_
                                  exact WL.nil ⟨(orF hb88), (by repeat (first | refine agree_upd rfl ?_ | refine agree_upds' rfl ?_ | exact agree_refl)), rfl⟩
                              · intro us
                                refine WL.valw (R.mv (v := (boo (((decide (r81 < 0)) || (decide (23 < r54.1))) || (decide (59 < r61.1))))) rfl) ?_
                                refine WL.grp 4 [96, 97, 98] 99 (boo ((((decide (r81 < 0)) || (decide (23 < r54.1))) || (decide (59 < r61.1))) || (decide (59 < r68.1)))) ?_ ?_
                                · rcases boolE (((decide (r81 < 0)) || (decide (23 < r54.1))) || (decide (59 < r61.1))) with hb90 | hb90
                                  · refine WL.gno rfl rfl hb90 ?_
                                    refine WL.gno rfl rfl hb90 ?_
                                    refine WL.gno rfl rfl hb90 ?_
                                    refine WL.valw (R.pickT rfl hb90 rfl) ?_
                                    exact WL.nil ⟨(orT hb90), (by repeat (first | refine agree_upd rfl ?_ | refine agree_upds' rfl ?_ | exact agree_refl)), rfl⟩
                                  · refine WL.gyes rfl rfl hb90 ?_
                                    refine WL.valw (v := (ptr b30 4)) (R.ofEq (R.idxAddrA rfl rfl Tryd.underlying80 lay3 ⟨by decide, by decide⟩) rfl) ?_
                                    refine WL.gyes rfl rfl hb90 ?_
                                    refine WL.valw (R.loadB (i := 0) (v := (int r68.1)) S rfl rfl lay3 rfl) ?_
                                    refine WL.gyes rfl rfl hb90 ?_
                                    refine WL.valw (R.gtr rfl rfl) ?_
                                    refine WL.valw (R.pickF rfl hb90 rfl) ?_
                                    exact WL.nil ⟨(orF hb90), (by repeat (first | refine agree_upd rfl ?_ | refine agree_upds' rfl ?_ | exact agree_refl)), rfl⟩
                                · intro us
                                  refine WL.valw (R.mv (v := (boo ((((decide (r81 < 0)) || (decide (23 < r54.1))) || (decide (59 < r61.1))) || (decide (59 < r68.1))))) rfl) ?_
                                  obtain ⟨b101, hg93, h⟩ := bindE h
                                  refine WL.grpw 8 [101, 102, 103, 104, 105, 106, 107] 108 (boo b101) (fun w => ∃ H' : Hp, H84.le H' ∧ St w0 H0 w H' [.box b30 80 [(int r40.1), (int r47.1), (int r54.1), (int r61.1), (int r68.1)]]) ?_ ?_
                                  · rcases boolE ((((decide (r81 < 0)) || (decide (23 < r54.1))) || (decide (59 < r61.1))) || (decide (59 < r68.1))) with hb92 | hb92
                                    · replace hg93 := condT hg93 hb92
                                      refine WL.gno rfl rfl hb92 ?_
                                      refine WL.gno rfl rfl hb92 ?_
                                      refine WL.gno rfl rfl hb92 ?_
                                      refine WL.gno rfl rfl hb92 ?_
                                      refine WL.gno rfl rfl hb92 ?_
                                      refine WL.gno rfl rfl hb92 ?_
                                      refine WL.gno rfl rfl hb92 ?_
                                      refine WL.valw (R.pickT rfl hb92 rfl) ?_
                                      exact WL.nil ⟨(congrArg boo (Option.some.inj hg93)), (by repeat (first | refine agree_upd rfl ?_ | refine agree_upds' rfl ?_ | exact agree_refl)), ⟨H84, (Hp.le.refl _), S⟩⟩
                                    · replace hg93 := condF hg93 hb92
                                      refine WL.gyes rfl rfl hb92 ?_
                                      refine WL.valw (R.mv (v := (str p_ppend)) rfl) ?_
                                      refine WL.gyes rfl rfl hb92 ?_
                                      obtain ⟨s94, hs94, hg93⟩ := bindE hg93
                                      refine WL.valw (R.subShi rfl rfl Tryd.underlying9 hs94) ?_
                                      refine WL.gyes rfl rfl hb92 ?_
                                      obtain ⟨r95, hr95, hg93⟩ := bindE hg93
                                      refine W.call S rfl (date_index_ok S.holds 7 date_dayName s94 (fun hle hw x0 r h => date_dayName_ok hw x0 h) hr95) ?_
                                      rintro v96 w97 H98 hle99 S rfl
                                      refine WL.gyes rfl rfl hb92 ?_
                                      refine WL.valw (R.mv (v := (int r81)) rfl) ?_
                                      refine WL.gyes rfl rfl hb92 ?_
                                      refine WL.valw (R.add rfl rfl) ?_
                                      refine WL.gyes rfl rfl hb92 ?_
                                      obtain ⟨n100, hn100, hg93⟩ := bindE hg93
                                      refine WL.valw (R.rem' rfl rfl hn100) ?_
                                      refine WL.gyes rfl rfl hb92 ?_
                                      refine WL.valw (R.neq rfl rfl) ?_
                                      refine WL.valw (R.pickF rfl hb92 rfl) ?_
                                      exact WL.nil ⟨(congrArg boo (Option.some.inj hg93)), (by repeat (first | refine agree_upd rfl ?_ | refine agree_upds' rfl ?_ | exact agree_refl)), ⟨H98, hle99, S⟩⟩
                                  · intro us w103 ⟨H102, hle104, S⟩
                                    refine WL.nil ?_
                                    rcases condE h with ⟨hc105, h⟩ | ⟨hc105, h⟩
                                    · refine WP.condT rfl hc105 ?_
                                      refine WP.seq ?_
                                      refine WP.region ?_
                                      refine WL.valw (R.as (v := (int 0)) rfl) ?_
                                      refine WL.valw (R.as (v := (boo false)) rfl) ?_
                                      refine WL.nil ?_
                                      obtain rfl := Option.some.inj h
                                      refine WP.ret (Out.two rfl S rfl rfl ?_)
                                      exact rfl
                                    · refine WP.condF rfl hc105 ?_
                                      refine WP.skip ?_
                                      refine WP.seq ?_
                                      refine WP.region ?_
                                      refine WL.valw (R.mv (v := (int r81)) rfl) ?_
                                      refine WL.valw (R.mul rfl rfl) ?_
                                      refine WL.valw (v := (ptr b30 2)) (R.ofEq (R.idxAddrA rfl rfl Tryd.underlying80 lay3 ⟨by decide, by decide⟩) rfl) ?_
                                      refine WL.valw (R.loadB (i := 0) (v := (int r54.1)) S rfl rfl lay3 rfl) ?_
                                      refine WL.valw (R.mul rfl rfl) ?_
                                      refine WL.valw (v := (ptr b30 3)) (R.ofEq (R.idxAddrA rfl rfl Tryd.underlying80 lay3 ⟨by decide, by decide⟩) rfl) ?_
                                      refine WL.valw (R.loadB (i := 0) (v := (int r61.1)) S rfl rfl lay3 rfl) ?_
                                      refine WL.valw (R.mul rfl rfl) ?_
                                      refine WL.valw (R.add rfl rfl) ?_
                                      refine WL.valw (v := (ptr b30 4)) (R.ofEq (R.idxAddrA rfl rfl Tryd.underlying80 lay3 ⟨by decide, by decide⟩) rfl) ?_
                                      refine WL.valw (R.loadB (i := 0) (v := (int r68.1)) S rfl rfl lay3 rfl) ?_
                                      refine WL.valw (R.add rfl rfl) ?_
                                      refine WL.valw (R.add rfl rfl) ?_
                                      refine WL.valw (R.as (v := (int (wr ((wr (r81 * 86400)) + (wr ((wr ((wr (r54.1 * 3600)) + (wr (r61.1 * 60)))) + r68.1)))))) rfl) ?_
                                      refine WL.valw (R.as (v := (boo true)) rfl) ?_
                                      refine WL.nil ?_
                                      obtain rfl := Option.some.inj h
                                      refine WP.ret (Out.two rfl S rfl rfl ?_)
                                      exact rfl
set_option maxRecDepth 10000 in
set_option maxHeartbeats 4000000 in
theorem freshness_first_ok {w0 : World} {H0 : Hp} (hw : Holds w0 H0) (p_l : (List GField)) (p_name : Str) {vp_l : Value} (Rp_l : Sl (α := GField) H0 vp_l p_l) {r : (Int × Bool)} (h : freshness_first p_l p_name = some r) :
    Con Tryd.prog 52 [vp_l, (str p_name)] w0 H0 (fun H' v => v = (.tuple ⟨[(int r.1), (boo r.2)]⟩)) := by
  refine Con.mk (N := 18) Tryd.func52 rfl rfl (by kernel_rfl) rfl ?_
  have S := St.start hw
  refine WP.seq ?_
  refine WP.region ?_
  refine WL.valw (R.as (v := (int 0)) rfl) ?_
  refine WL.valw (R.as (v := (boo false)) rfl) ?_
  refine WL.nil ?_
  refine WP.seq ?_
  refine WP.region ?_
  refine WL.valw (R.mv (v := vp_l) rfl) ?_
  refine WL.valw (R.mv (v := (str p_name)) rfl) ?_
  obtain ⟨r1, hr1, h⟩ := bindE h
  refine W.call S rfl (fieldline_First_ok S.holds p_l p_name Rp_l hr1) ?_
  rintro v2 w3 H4 hle5 S rfl
  have Rp_l := Sl.mono Rp_l hle5
  refine WL.valw (R.mv (v := (.tuple ⟨[(str r1.1), (boo r1.2)]⟩)) rfl) ?_
  refine WL.valw (R.ext rfl rfl) ?_
  refine WL.valw (R.ext rfl rfl) ?_
  refine WL.valw (R.as (v := (str r1.1)) rfl) ?_
  refine WL.valw (R.as (v := (boo r1.2)) rfl) ?_
  refine WL.nil ?_
  refine WP.seq ?_
  refine WP.region ?_
  refine WL.valw (R.mv (v := (str r1.1)) rfl) ?_
  obtain ⟨r6, hr6, h⟩ := bindE h
  refine W.call S rfl (date_Parse_ok S.holds r1.1 hr6) ?_
  rintro v7 w8 H9 hle10 S rfl
  have Rp_l := Sl.mono Rp_l hle10
  refine WL.valw (R.ext rfl rfl) ?_
  refine WL.valw (R.ext rfl rfl) ?_
  refine WL.valw (R.as (v := (int r6.1)) rfl) ?_
  refine WL.valw (R.as (v := (boo r6.2)) rfl) ?_
  refine WL.nil ?_
  obtain rfl := Option.some.inj h
  refine WP.ret (Out.two rfl S rfl rfl ?_)
  exact rfl
set_option maxRecDepth 10000 in
set_option maxHeartbeats 4000000 in
theorem freshness_saturate_ok {w0 : World} {H0 : Hp} (hw : Holds w0 H0) (p_a : Int) (p_b : Int) {r : Int} (h : freshness_saturate p_a p_b = some r) :
    Con Tryd.prog 53 [(int p_a), (int p_b)] w0 H0 (fun H' v => v = (int r)) := by
  refine Con.mk (N := 10) Tryd.func53 rfl rfl (by kernel_rfl) rfl ?_
  have S := St.start hw
  refine WP.seq ?_
  refine WP.region ?_
  refine WL.valw (R.as (v := (int 0)) rfl) ?_
  refine WL.nil ?_
  refine WP.seq ?_
  refine WP.region ?_
  refine WL.valw (R.mv (v := (int p_a)) rfl) ?_
  refine WL.valw (R.mv (v := (int p_b)) rfl) ?_
  refine WL.valw (R.sub rfl rfl) ?_
  refine WL.valw (R.max rfl rfl) ?_
  refine WL.valw (R.min rfl rfl) ?_
  refine WL.valw (R.as (v := (int (if 2147483647 < (if (wr (p_a - p_b)) < 0 then 0 else (wr (p_a - p_b))) then 2147483647 else (if (wr (p_a - p_b)) < 0 then 0 else (wr (p_a - p_b)))))) rfl) ?_
  refine WL.nil ?_
  obtain rfl := Option.some.inj h
  refine WP.ret (Out.one rfl S rfl ?_)
  exact rfl
set_option maxRecDepth 10000 in
set_option maxHeartbeats 4000000 in
theorem freshness_Lifetime_ok {w0 : World} {H0 : Hp} (hw : Holds w0 H0) (p_l : (List GField)) {vp_l : Value} (Rp_l : Sl (α := GField) H0 vp_l p_l) {r : Int} (h : freshness_Lifetime p_l = some r) :
    Con Tryd.prog 29 [vp_l] w0 H0 (fun H' v => v = (int r)) := by
  refine Con.mk (N := 39) Tryd.func29 rfl rfl (by kernel_rfl) rfl ?_
  have S := St.start hw
  refine WP.seq ?_
  refine WP.region ?_
  refine WL.valw (R.as (v := (int 0)) rfl) ?_
  refine WL.nil ?_
  refine WP.seq ?_
  refine WP.region ?_
  refine WL.valw (R.mv (v := vp_l) rfl) ?_
  obtain ⟨r1, hr1, h⟩ := bindE h
  refine W.call S rfl (cachecontrol_Response_ok S.holds p_l Rp_l hr1) ?_
  rintro v2 w3 H4 hle5 S rfl
  have Rp_l := Sl.mono Rp_l hle5
  refine W.alloc [(boo false), (boo false), (boo false), (boo false), (boo false), (boo false), (boo false), (int 0), (int 0), (int 0), (int 0)] S zer32 ?_
  intro b6 w7 S
  refine W.store (i := 0) [(boo r1.fNoStore), (boo r1.fNoCache), (boo r1.fMustRevalidate), (boo r1.fProxyRevalidate), (boo r1.fPrivate), (boo r1.fPublic), (boo r1.fOnlyIfCached), (int r1.fMaxAge), (int r1.fSMaxAge), (int r1.fMinFresh), (int r1.fMaxStale)] S rfl rfl rfl lay32 rfl rfl (Nat.le_of_ble_eq_true rfl) rfl ?_
  intro w8 S
  refine WL.nil ?_
  refine WP.seq ?_
  refine WP.seq ?_
  refine WP.region ?_
  refine WL.valw (R.fieldB rfl fld32_8) ?_
  refine WL.valw (R.loadB (i := 0) (v := (int r1.fSMaxAge)) S rfl rfl lay3 rfl) ?_
  refine WL.valw (R.geq rfl rfl) ?_
  refine WL.nil ?_
  rcases condE h with ⟨hc9, h⟩ | ⟨hc9, h⟩
  · refine WP.condT rfl hc9 ?_
    refine WP.seq ?_
    refine WP.region ?_
    refine WL.valw (R.fieldB rfl fld32_8) ?_
    refine WL.valw (R.loadB (i := 0) (v := (int r1.fSMaxAge)) S rfl rfl lay3 rfl) ?_
    refine WL.valw (R.as (v := (int r1.fSMaxAge)) rfl) ?_
    refine WL.nil ?_
    obtain rfl := Option.some.inj h
    refine WP.ret (Out.one rfl S rfl ?_)
    exact rfl
  · refine WP.condF rfl hc9 ?_
    refine WP.skip ?_
    refine WP.seq ?_
    refine WP.seq ?_
    refine WP.region ?_
    refine WL.valw (R.fieldB rfl fld32_7) ?_
    refine WL.valw (R.loadB (i := 0) (v := (int r1.fMaxAge)) S rfl rfl lay3 rfl) ?_
    refine WL.valw (R.geq rfl rfl) ?_
    refine WL.nil ?_
    rcases condE h with ⟨hc10, h⟩ | ⟨hc10, h⟩
    · refine WP.condT rfl hc10 ?_
      refine WP.seq ?_
      refine WP.region ?_
      refine WL.valw (R.fieldB rfl fld32_7) ?_
      refine WL.valw (R.loadB (i := 0) (v := (int r1.fMaxAge)) S rfl rfl lay3 rfl) ?_
      refine WL.valw (R.as (v := (int r1.fMaxAge)) rfl) ?_
      refine WL.nil ?_
      obtain rfl := Option.some.inj h
      refine WP.ret (Out.one rfl S rfl ?_)
      exact rfl
    · refine WP.condF rfl hc10 ?_
      refine WP.skip ?_
      refine WP.seq ?_
      refine WP.region ?_
      refine WL.valw (R.mv (v := vp_l) rfl) ?_
      obtain ⟨r11, hr11, h⟩ := bindE h
      refine W.call S rfl (freshness_first_ok S.holds p_l [69, 120, 112, 105, 114, 101, 115] Rp_l hr11) ?_
      rintro v12 w13 H14 hle15 S rfl
      have Rp_l := Sl.mono Rp_l hle15
      refine WL.valw (R.mv (v := (.tuple ⟨[(int r11.1), (boo r11.2)]⟩)) rfl) ?_
      refine WL.valw (R.ext rfl rfl) ?_
      refine WL.valw (R.ext rfl rfl) ?_
      refine WL.valw (R.as (v := (int r11.1)) rfl) ?_
      refine WL.valw (R.as (v := (boo r11.2)) rfl) ?_
      refine WL.nil ?_
      refine WP.seq ?_
      refine WP.region ?_
      refine WL.valw (R.mv (v := vp_l) rfl) ?_
      obtain ⟨r16, hr16, h⟩ := bindE h
      refine W.call S rfl (freshness_first_ok S.holds p_l [68, 97, 116, 101] Rp_l hr16) ?_
      rintro v17 w18 H19 hle20 S rfl
      have Rp_l := Sl.mono Rp_l hle20
      refine WL.valw (R.mv (v := (.tuple ⟨[(int r16.1), (boo r16.2)]⟩)) rfl) ?_
      refine WL.valw (R.ext rfl rfl) ?_
      refine WL.valw (R.ext rfl rfl) ?_
      refine WL.valw (R.as (v := (int r16.1)) rfl) ?_
      refine WL.valw (R.as (v := (boo r16.2)) rfl) ?_
      refine WL.nil ?_
      refine WP.seq ?_
      refine WP.seq ?_
      refine WP.region ?_
      refine WL.valw (R.mv (v := (boo r11.2)) rfl) ?_
      refine WL.valw (R.not rfl) ?_
      refine WL.valw (R.mv (v := (boo (!r11.2))) rfl) ?_
      refine WL.grp 3 [33, 34] 35 (boo ((!r11.2) || (!r16.2))) ?_ ?_
      · rcases boolE (!r11.2) with hb21 | hb21
        · refine WL.gno rfl rfl hb21 ?_
          refine WL.gno rfl rfl hb21 ?_
          refine WL.valw (R.pickT rfl hb21 rfl) ?_
          exact WL.nil ⟨(orT hb21), (by repeat (first | refine agree_upd rfl ?_ | refine agree_upds' rfl ?_ | exact agree_refl)), rfl⟩
        · refine WL.gyes rfl rfl hb21 ?_
          refine WL.valw (R.mv (v := (boo r16.2)) rfl) ?_
          refine WL.gyes rfl rfl hb21 ?_
          refine WL.valw (R.not rfl) ?_
          refine WL.valw (R.pickF rfl hb21 rfl) ?_
          exact WL.nil ⟨(orF hb21), (by repeat (first | refine agree_upd rfl ?_ | refine agree_upds' rfl ?_ | exact agree_refl)), rfl⟩
      · intro us
        refine WL.nil ?_
        rcases condE h with ⟨hc23, h⟩ | ⟨hc23, h⟩
        · refine WP.condT rfl hc23 ?_
          refine WP.seq ?_
          refine WP.region ?_
          refine WL.valw (R.as (v := (int 0)) rfl) ?_
          refine WL.nil ?_
          obtain rfl := Option.some.inj h
          refine WP.ret (Out.one rfl S rfl ?_)
          exact rfl
        · refine WP.condF rfl hc23 ?_
          refine WP.skip ?_
          refine WP.seq ?_
          refine WP.region ?_
          refine WL.valw (R.mv (v := (int r11.1)) rfl) ?_
          refine WL.valw (R.mv (v := (int r16.1)) rfl) ?_
          obtain ⟨r24, hr24, h⟩ := bindE h
          refine W.call S rfl (freshness_saturate_ok S.holds r11.1 r16.1 hr24) ?_
          rintro v25 w26 H27 hle28 S rfl
          have Rp_l := Sl.mono Rp_l hle28
          refine WL.valw (R.as (v := (int r24)) rfl) ?_
          refine WL.nil ?_
          obtain rfl := Option.some.inj h
          refine WP.ret (Out.one rfl S rfl ?_)
          exact rfl
set_option maxRecDepth 10000 in
set_option maxHeartbeats 4000000 in
theorem ref01_First_ok {w0 : World} {H0 : Hp} (hw : Holds w0 H0) (p_l : (List GField)) (p_name : Str) {vp_l : Value} (Rp_l : Sl (α := GField) H0 vp_l p_l) {r : (Str × Bool)} (h : ref01_First p_l p_name = some r) :
    Con Tryd.prog 58 [vp_l, (str p_name)] w0 H0 (fun H' v => v = (.tuple ⟨[(str r.1), (boo r.2)]⟩)) := by
  refine Con.mk (N := 16) Tryd.func58 rfl rfl (by kernel_rfl) rfl ?_
  have S := St.start hw
  refine WP.seq ?_
  refine WP.region ?_
  refine WL.valw (R.as (v := (str [])) rfl) ?_
  refine WL.valw (R.as (v := (boo false)) rfl) ?_
  refine WL.nil ?_
  refine WP.seq ?_
  refine WP.seq ?_
  refine WP.region ?_
  refine WL.valw (R.mv (v := vp_l) rfl) ?_
  refine WL.valw (R.mv (v := (str p_name)) rfl) ?_
  obtain ⟨r1, hr1, h⟩ := bindE h
  refine W.call S rfl (ref01_Get_ok S.holds p_l p_name Rp_l hr1) ?_
  rintro v2 w3 H4 hle5 S R6
  have Rp_l := Sl.mono Rp_l hle5
  refine WL.valw (R.as (v := v2) rfl) ?_
  refine WL.nil ?_
  refine WP.seq ?_
  refine WP.region ?_
  refine WL.valw (R.mv (v := v2) rfl) ?_
  refine WL.valw (R.lenL (α := Str) (xs := r1) (H := H4) R6 rfl Tryd.underlying23) ?_
  refine WL.valw (R.gtr rfl rfl) ?_
  refine WL.nil ?_
  rcases condE h with ⟨hc7, h⟩ | ⟨hc7, h⟩
  · refine WP.condT rfl hc7 ?_
    refine WP.seq ?_
    refine WP.region ?_
    refine WL.valw (R.mv (v := v2) rfl) ?_
    obtain ⟨x8, hx8, h⟩ := bindE h
    refine W.idx (α := Str) R6 rfl rfl el23 hx8 ?_
    rintro a9 _ hA10 rfl
    refine WL.valw (R.loadH (v := (str x8)) S rfl hA10 lay9 rfl) ?_
    refine WL.valw (R.as (v := (str x8)) rfl) ?_
    refine WL.valw (R.as (v := (boo true)) rfl) ?_
    refine WL.nil ?_
    obtain rfl := Option.some.inj h
    refine WP.ret (Out.two rfl S rfl rfl ?_)
    exact rfl
  · refine WP.condF rfl hc7 ?_
    refine WP.skip ?_
    refine WP.seq ?_
    refine WP.region ?_
    refine WL.valw (R.as (v := (str [])) rfl) ?_
    refine WL.valw (R.as (v := (boo false)) rfl) ?_
    refine WL.nil ?_
    obtain rfl := Option.some.inj h
    refine WP.ret (Out.two rfl S rfl rfl ?_)
    exact rfl
set_option maxRecDepth 10000 in
set_option maxHeartbeats 4000000 in
theorem ref19_digits_ok {w0 : World} {H0 : Hp} (hw : Holds w0 H0) (p_s : Str) (p_at : Int) (p_n : Int) {r : (Int × Bool)} (h : ref19_digits p_s p_at p_n = some r) :
    Con Tryd.prog 83 [(str p_s), (int p_at), (int p_n)] w0 H0 (fun H' v => v = (.tuple ⟨[(int r.1), (boo r.2)]⟩)) := by
  refine Con.mk (N := 31) Tryd.func83 rfl rfl (by kernel_rfl) rfl ?_
  have S := St.start hw
  refine WP.seq ?_
  refine WP.region ?_
  refine WL.valw (R.as (v := (int 0)) rfl) ?_
  refine WL.valw (R.as (v := (boo false)) rfl) ?_
  refine WL.nil ?_
  refine WP.seq ?_
  refine WP.seq ?_
  refine WP.region ?_
  refine WL.valw (R.mv (v := (int p_at)) rfl) ?_
  refine WL.valw (R.as (v := (int p_at)) rfl) ?_
  refine WL.nil ?_
  obtain ⟨r14, hr15, h⟩ := bindE h
  refine WP.cut (fun f w => match r14 with | .inl _ => ∃ (H7 : Hp), f 0 = (str p_s) ∧ f 1 = (int p_at) ∧ f 2 = (int p_n) ∧ St w0 H0 w H7 [] | .inr _ => False) ?_ ?_
  · refine WP.block ?_
    refine WP.loopM (ref19_digits_L0 p_s p_at p_n) (fun s f w => match s with | i_5 => ∃ (H1 : Hp), f 0 = (str p_s) ∧ f 1 = (int p_at) ∧ f 2 = (int p_n) ∧ f 8 = (int i_5) ∧ St w0 H0 w H1 []) p_at r14 hr15 ?_ ?_
    · exact ⟨H0, rfl, rfl, rfl, rfl, S⟩
    · intro i_5 f w hI y11 hy12 hy13
      obtain ⟨H1, h2, h3, h4, h6, S⟩ := hI
      refine WP.seq ?_
      refine WP.seq ?_
      refine WP.region ?_
      refine WL.valw (R.mv (v := (int i_5)) h6) ?_
      refine WL.valw (R.mv (v := (int p_at)) h3) ?_
      refine WL.valw (R.mv (v := (int p_n)) h4) ?_
      refine WL.valw (R.add rfl rfl) ?_
      refine WL.valw (R.lss rfl rfl) ?_
      refine WL.nil ?_
      rcases condE hy12 with ⟨hc16, hy12⟩ | ⟨hc16, hy12⟩
      · refine WP.condT rfl hc16 ?_
        refine WP.skip ?_
        refine WP.seq ?_
        refine WP.block ?_
        refine WP.seq ?_
        refine WP.region ?_
        refine WL.valw (R.mv (v := (str p_s)) h2) ?_
        refine WL.valw (R.mv (v := (int i_5)) h6) ?_
        obtain ⟨c17, hc17, hy12⟩ := bindE hy12
        refine WL.valw (R.idxS rfl rfl Tryd.underlying9 hc17) ?_
        obtain ⟨r18, hr18, hy12⟩ := bindE hy12
        refine W.call S rfl (ref01_Digit_ok S.holds c17 hr18) ?_
        rintro v19 w20 H21 hle22 S rfl
        refine WL.valw (R.not rfl) ?_
        refine WL.nil ?_
        rcases condE hy12 with ⟨hc23, hy12⟩ | ⟨hc23, hy12⟩
        · refine WP.condT rfl hc23 ?_
          refine WP.seq ?_
          refine WP.region ?_
          refine WL.valw (R.as (v := (int 0)) rfl) ?_
          refine WL.valw (R.as (v := (boo false)) rfl) ?_
          refine WL.nil ?_
          obtain rfl := Option.some.inj hy12
          obtain rfl := hy13
          obtain rfl := Option.some.inj h
          refine WP.ret (Out.two rfl S rfl rfl ?_)
          exact rfl
        · refine WP.condF rfl hc23 ?_
          refine WP.skip ?_
          refine WP.region ?_
          refine WL.valw (R.mv (v := (int i_5)) h6) ?_
          refine WL.valw (R.add rfl rfl) ?_
          refine WL.valw (R.as (v := (int (wr (i_5 + 1)))) rfl) ?_
          refine WL.nil ?_
          obtain rfl := Option.some.inj hy12
          exact ⟨rfl, ⟨H21, h2, h3, h4, rfl, S⟩⟩
      · refine WP.condF rfl hc16 ?_
        refine WP.exit ?_
        obtain rfl := Option.some.inj hy12
        obtain rfl := hy13
        exact ⟨H1, h2, h3, h4, S⟩
  · intro f w hM
    rcases r14 with _ | e
    · obtain ⟨H7, h8, h9, h10, S⟩ := hM
      refine WP.seq ?_
      refine WP.region ?_
      refine WL.valw (R.mv (v := (str p_s)) h8) ?_
      refine WL.valw (R.mv (v := (int p_at)) h9) ?_
      refine WL.valw (R.mv (v := (int p_at)) h9) ?_
      refine WL.valw (R.mv (v := (int p_n)) h10) ?_
      refine WL.valw (R.add rfl rfl) ?_
      obtain ⟨s24, hs24, h⟩ := bindE h
      refine WL.valw (R.subS rfl rfl rfl Tryd.underlying9 hs24) ?_
      obtain ⟨r25, hr25, h⟩ := bindE h
      refine W.call S rfl (ref01_Number_ok S.holds s24 hr25) ?_
      rintro v26 w27 H28 hle29 S rfl
      refine WL.valw (R.ext rfl rfl) ?_
      refine WL.valw (R.ext rfl rfl) ?_
      refine WL.valw (R.as (v := (int r25.1)) rfl) ?_
      refine WL.valw (R.as (v := (boo r25.2)) rfl) ?_
      refine WL.nil ?_
      obtain rfl := Option.some.inj h
      refine WP.ret (Out.two rfl S rfl rfl ?_)
      exact rfl
    · exact hM.elim
set_option maxRecDepth 10000 in
set_option maxHeartbeats 4000000 in
theorem ref19_leap_ok {w0 : World} {H0 : Hp} (hw : Holds w0 H0) (p_year : Int) {r : Bool} (h : ref19_leap p_year = some r) :
    Con Tryd.prog 89 [(int p_year)] w0 H0 (fun H' v => v = (boo r)) := by
  refine Con.mk (N := 16) Tryd.func89 rfl rfl (by kernel_rfl) rfl ?_
  have S := St.start hw
  refine WP.seq ?_
  refine WP.region ?_
  refine WL.valw (R.as (v := (boo false)) rfl) ?_
  refine WL.nil ?_
  refine WP.seq ?_
  refine WP.region ?_
  refine WL.valw (R.mv (v := (int p_year)) rfl) ?_
  obtain ⟨n1, hn1, h⟩ := bindE h
  refine WL.valw (R.rem' rfl rfl hn1) ?_
  refine WL.valw (R.eql rfl rfl) ?_
  refine WL.valw (R.mv (v := (boo (n1 == 0))) rfl) ?_
  obtain ⟨b9, hg3, h⟩ := bindE h
  refine WL.grp 9 [7, 8, 9, 10, 11, 12, 13, 14] 15 (boo b9) ?_ ?_
  · rcases boolE (n1 == 0) with hb2 | hb2
    · replace hg3 := condT hg3 hb2
      refine WL.gyes rfl rfl hb2 ?_
      refine WL.valw (R.mv (v := (int p_year)) rfl) ?_
      refine WL.gyes rfl rfl hb2 ?_
      obtain ⟨n4, hn4, hg3⟩ := bindE hg3
      refine WL.valw (R.rem' rfl rfl hn4) ?_
      refine WL.gyes rfl rfl hb2 ?_
      refine WL.valw (R.neq rfl rfl) ?_
      refine WL.gyes rfl rfl hb2 ?_
      refine WL.valw (R.mv (v := (boo (n4 != 0))) rfl) ?_
      obtain ⟨b8, hg6, hg3⟩ := bindE hg3
      refine WL.grp 4 [11, 12, 13] 14 (boo b8) ?_ ?_
      · rcases boolE (n4 != 0) with hb5 | hb5
        · replace hg6 := condT hg6 hb5
          refine WL.gno rfl rfl hb5 ?_
          refine WL.gno rfl rfl hb5 ?_
          refine WL.gno rfl rfl hb5 ?_
          refine WL.gyes rfl rfl hb2 ?_
          refine WL.valw (R.pickT rfl hb5 rfl) ?_
          exact WL.nil ⟨(congrArg boo (Option.some.inj hg6)), (by repeat (first | refine agree_upd rfl ?_ | refine agree_upds' rfl ?_ | exact agree_refl)), rfl⟩
        · replace hg6 := condF hg6 hb5
          refine WL.gyes rfl rfl hb5 ?_
          refine WL.valw (R.mv (v := (int p_year)) rfl) ?_
          refine WL.gyes rfl rfl hb5 ?_
          obtain ⟨n7, hn7, hg6⟩ := bindE hg6
          refine WL.valw (R.rem' rfl rfl hn7) ?_
          refine WL.gyes rfl rfl hb5 ?_
          refine WL.valw (R.eql rfl rfl) ?_
          refine WL.gyes rfl rfl hb2 ?_
          refine WL.valw (R.pickF rfl hb5 rfl) ?_
          exact WL.nil ⟨(congrArg boo (Option.some.inj hg6)), (by repeat (first | refine agree_upd rfl ?_ | refine agree_upds' rfl ?_ | exact agree_refl)), rfl⟩
      · intro us
        refine WL.valw (R.pickT rfl hb2 rfl) ?_
        exact WL.nil ⟨(congrArg boo (Option.some.inj hg3)), (by repeat (first | refine agree_upd rfl ?_ | refine agree_upds' rfl ?_ | exact agree_refl)), rfl⟩
    · replace hg3 := condF hg3 hb2
      refine WL.gno rfl rfl hb2 ?_
      refine WL.gno rfl rfl hb2 ?_
      refine WL.gno rfl rfl hb2 ?_
      refine WL.gno rfl rfl hb2 ?_
      refine WL.gund rfl rfl ?_
      refine WL.gund rfl rfl ?_
      refine WL.gund rfl rfl ?_
      refine WL.gno rfl rfl hb2 ?_
      refine WL.valw (R.pickF rfl hb2 rfl) ?_
      exact WL.nil ⟨(congrArg boo (Option.some.inj hg3)), (by repeat (first | refine agree_upd rfl ?_ | refine agree_upds' rfl ?_ | exact agree_refl)), rfl⟩
  · intro us
    refine WL.valw (R.as (v := (boo b9)) rfl) ?_
    refine WL.nil ?_
    obtain rfl := Option.some.inj h
    refine WP.ret (Out.one rfl S rfl ?_)
    exact rfl
set_option maxRecDepth 10000 in
set_option maxHeartbeats 4000000 in
theorem ref19_length_ok {w0 : World} {H0 : Hp} (hw : Holds w0 H0) (p_year : Int) (p_month : Int) {r : Int} (h : ref19_length p_year p_month = some r) :
    Con Tryd.prog 88 [(int p_year), (int p_month)] w0 H0 (fun H' v => v = (int r)) := by
  refine Con.mk (N := 15) Tryd.func88 rfl rfl (by kernel_rfl) rfl ?_
  have S := St.start hw
  refine WP.seq ?_
  refine WP.region ?_
  refine WL.valw (R.as (v := (int 0)) rfl) ?_
  refine WL.nil ?_
  refine WP.seq ?_
  refine WP.seq ?_
  refine WP.region ?_
  refine WL.valw (R.mv (v := (int p_month)) rfl) ?_
  refine WL.nil ?_
  obtain ⟨j3, hj2, h⟩ := bindE h
  refine WP.cut (fun f w => match j3 with | .inl _ => ∃ (H1 : Hp), St w0 H0 w H1 [] | .inr _ => False) ?_ ?_
  · refine WP.block ?_
    refine WP.seq ?_
    refine WP.seq ?_
    refine WP.region ?_
    refine WL.valw (R.eql rfl rfl) ?_
    refine WL.valw (R.as (v := (boo (p_month == 4))) rfl) ?_
    refine WL.nil ?_
    obtain ⟨y_7, hj9, hj2⟩ := bindE hj2
    refine WP.cut (fun f w => ∃ (H4 : Hp), f 0 = (int p_year) ∧ f 5 = (int p_month) ∧ f 6 = (boo y_7) ∧ St w0 H0 w H4 []) ?_ ?_
    · rcases condE hj9 with ⟨hc11, hj9⟩ | ⟨hc11, hj9⟩
      · refine WP.condT rfl hc11 ?_
        refine WP.skip ?_
        obtain rfl := Option.some.inj hj9
        exact ⟨H0, rfl, rfl, rfl, S⟩
      · refine WP.condF rfl hc11 ?_
        refine WP.seq ?_
        refine WP.region ?_
        refine WL.valw (R.eql rfl rfl) ?_
        refine WL.valw (R.as (v := (boo (p_month == 6))) rfl) ?_
        refine WL.nil ?_
        rcases condE hj9 with ⟨hc12, hj9⟩ | ⟨hc12, hj9⟩
        · refine WP.condT rfl hc12 ?_
          refine WP.skip ?_
          obtain rfl := Option.some.inj hj9
          exact ⟨H0, rfl, rfl, rfl, S⟩
        · refine WP.condF rfl hc12 ?_
          refine WP.seq ?_
          refine WP.region ?_
          refine WL.valw (R.eql rfl rfl) ?_
          refine WL.valw (R.as (v := (boo (p_month == 9))) rfl) ?_
          refine WL.nil ?_
          rcases condE hj9 with ⟨hc13, hj9⟩ | ⟨hc13, hj9⟩
          · refine WP.condT rfl hc13 ?_
            refine WP.skip ?_
            obtain rfl := Option.some.inj hj9
            exact ⟨H0, rfl, rfl, rfl, S⟩
          · refine WP.condF rfl hc13 ?_
            refine WP.region ?_
            refine WL.valw (R.eql rfl rfl) ?_
            refine WL.valw (R.as (v := (boo (p_month == 11))) rfl) ?_
            refine WL.nil ?_
            obtain rfl := Option.some.inj hj9
            exact ⟨H0, rfl, rfl, rfl, S⟩
    · rintro f w ⟨H4, h5, h6, h8, S⟩
      rcases condE hj2 with ⟨hc14, hj2⟩ | ⟨hc14, hj2⟩
      · refine WP.condT h8 hc14 ?_
        refine WP.seq ?_
        refine WP.region ?_
        refine WL.valw (R.as (v := (int 30)) rfl) ?_
        refine WL.nil ?_
        obtain rfl := Option.some.inj hj2
        obtain rfl := Option.some.inj h
        refine WP.ret (Out.one rfl S rfl ?_)
        exact rfl
      · refine WP.condF h8 hc14 ?_
        refine WP.seq ?_
        refine WP.region ?_
        refine WL.valw (R.eql h6 rfl) ?_
        refine WL.valw (R.as (v := (boo (p_month == 2))) rfl) ?_
        refine WL.nil ?_
        rcases condE hj2 with ⟨hc15, hj2⟩ | ⟨hc15, hj2⟩
        · refine WP.condT rfl hc15 ?_
          refine WP.seq ?_
          refine WP.seq ?_
          refine WP.region ?_
          refine WL.valw (R.mv (v := (int p_year)) h5) ?_
          obtain ⟨r16, hr16, hj2⟩ := bindE hj2
          refine W.call S rfl (ref19_leap_ok S.holds p_year hr16) ?_
          rintro v17 w18 H19 hle20 S rfl
          refine WL.nil ?_
          rcases condE hj2 with ⟨hc21, hj2⟩ | ⟨hc21, hj2⟩
          · refine WP.condT rfl hc21 ?_
            refine WP.seq ?_
            refine WP.region ?_
            refine WL.valw (R.as (v := (int 29)) rfl) ?_
            refine WL.nil ?_
            obtain rfl := Option.some.inj hj2
            obtain rfl := Option.some.inj h
            refine WP.ret (Out.one rfl S rfl ?_)
            exact rfl
          · refine WP.condF rfl hc21 ?_
            refine WP.skip ?_
            refine WP.seq ?_
            refine WP.region ?_
            refine WL.valw (R.as (v := (int 28)) rfl) ?_
            refine WL.nil ?_
            obtain rfl := Option.some.inj hj2
            obtain rfl := Option.some.inj h
            refine WP.ret (Out.one rfl S rfl ?_)
            exact rfl
        · refine WP.condF rfl hc15 ?_
          refine WP.skip ?_
          obtain rfl := Option.some.inj hj2
          exact ⟨H4, S⟩
  · intro f w hM
    rcases j3 with _ | e
    · obtain ⟨H1, S⟩ := hM
      refine WP.seq ?_
      refine WP.region ?_
      refine WL.valw (R.as (v := (int 31)) rfl) ?_
      refine WL.nil ?_
      obtain rfl := Option.some.inj h
      refine WP.ret (Out.one rfl S rfl ?_)
      exact rfl
    · exact hM.elim
set_option maxRecDepth 10000 in
set_option maxHeartbeats 4000000 in
theorem ref19_Days_ok {w0 : World} {H0 : Hp} (hw : Holds w0 H0) (p_year : Int) (p_month : Int) (p_day : Int) {r : Int} (h : ref19_Days p_year p_month p_day = some r) :
    Con Tryd.prog 84 [(int p_year), (int p_month), (int p_day)] w0 H0 (fun H' v => v = (int r)) := by
  refine Con.mk (N := 59) Tryd.func84 rfl rfl (by kernel_rfl) rfl ?_
  have S := St.start hw
  refine WP.seq ?_
  refine WP.region ?_
  refine WL.valw (R.as (v := (int 0)) rfl) ?_
  refine WL.nil ?_
  refine WP.seq ?_
  refine WP.seq ?_
  refine WP.region ?_
  refine WL.valw (R.mv (v := (int p_year)) rfl) ?_
  refine WL.valw (R.lss rfl rfl) ?_
  refine WL.valw (R.mv (v := (boo (decide (p_year < 1970)))) rfl) ?_
  refine WL.grp 3 [13, 14] 15 (boo ((decide (p_year < 1970)) || (decide (9999 < p_year)))) ?_ ?_
  · rcases boolE (decide (p_year < 1970)) with hb1 | hb1
    · refine WL.gno rfl rfl hb1 ?_
      refine WL.gno rfl rfl hb1 ?_
      refine WL.valw (R.pickT rfl hb1 rfl) ?_
      exact WL.nil ⟨(orT hb1), (by repeat (first | refine agree_upd rfl ?_ | refine agree_upds' rfl ?_ | exact agree_refl)), rfl⟩
    · refine WL.gyes rfl rfl hb1 ?_
      refine WL.valw (R.mv (v := (int p_year)) rfl) ?_
      refine WL.gyes rfl rfl hb1 ?_
      refine WL.valw (R.gtr rfl rfl) ?_
      refine WL.valw (R.pickF rfl hb1 rfl) ?_
      exact WL.nil ⟨(orF hb1), (by repeat (first | refine agree_upd rfl ?_ | refine agree_upds' rfl ?_ | exact agree_refl)), rfl⟩
  · intro us
    refine WL.valw (R.mv (v := (boo ((decide (p_year < 1970)) || (decide (9999 < p_year))))) rfl) ?_
    refine WL.grp 3 [17, 18] 19 (boo (((decide (p_year < 1970)) || (decide (9999 < p_year))) || (decide (p_month < 1)))) ?_ ?_
    · rcases boolE ((decide (p_year < 1970)) || (decide (9999 < p_year))) with hb3 | hb3
      · refine WL.gno rfl rfl hb3 ?_
        refine WL.gno rfl rfl hb3 ?_
        refine WL.valw (R.pickT rfl hb3 rfl) ?_
        exact WL.nil ⟨(orT hb3), (by repeat (first | refine agree_upd rfl ?_ | refine agree_upds' rfl ?_ | exact agree_refl)), rfl⟩
      · refine WL.gyes rfl rfl hb3 ?_
        refine WL.valw (R.mv (v := (int p_month)) rfl) ?_
        refine WL.gyes rfl rfl hb3 ?_
        refine WL.valw (R.lss rfl rfl) ?_
        refine WL.valw (R.pickF rfl hb3 rfl) ?_
        exact WL.nil ⟨(orF hb3), (by repeat (first | refine agree_upd rfl ?_ | refine agree_upds' rfl ?_ | exact agree_refl)), rfl⟩
    · intro us
      refine WL.valw (R.mv (v := (boo (((decide (p_year < 1970)) || (decide (9999 < p_year))) || (decide (p_month < 1))))) rfl) ?_
      refine WL.grp 3 [21, 22] 23 (boo ((((decide (p_year < 1970)) || (decide (9999 < p_year))) || (decide (p_month < 1))) || (decide (12 < p_month)))) ?_ ?_
      · rcases boolE (((decide (p_year < 1970)) || (decide (9999 < p_year))) || (decide (p_month < 1))) with hb5 | hb5
        · refine WL.gno rfl rfl hb5 ?_
          refine WL.gno rfl rfl hb5 ?_
          refine WL.valw (R.pickT rfl hb5 rfl) ?_
          exact WL.nil ⟨(orT hb5), (by repeat (first | refine agree_upd rfl ?_ | refine agree_upds' rfl ?_ | exact agree_refl)), rfl⟩
        · refine WL.gyes rfl rfl hb5 ?_
          refine WL.valw (R.mv (v := (int p_month)) rfl) ?_
          refine WL.gyes rfl rfl hb5 ?_
          refine WL.valw (R.gtr rfl rfl) ?_
          refine WL.valw (R.pickF rfl hb5 rfl) ?_
          exact WL.nil ⟨(orF hb5), (by repeat (first | refine agree_upd rfl ?_ | refine agree_upds' rfl ?_ | exact agree_refl)), rfl⟩
      · intro us
        refine WL.valw (R.mv (v := (boo ((((decide (p_year < 1970)) || (decide (9999 < p_year))) || (decide (p_month < 1))) || (decide (12 < p_month))))) rfl) ?_
        refine WL.grp 3 [25, 26] 27 (boo (((((decide (p_year < 1970)) || (decide (9999 < p_year))) || (decide (p_month < 1))) || (decide (12 < p_month))) || (decide (p_day < 1)))) ?_ ?_
        · rcases boolE ((((decide (p_year < 1970)) || (decide (9999 < p_year))) || (decide (p_month < 1))) || (decide (12 < p_month))) with hb7 | hb7
          · refine WL.gno rfl rfl hb7 ?_
            refine WL.gno rfl rfl hb7 ?_
            refine WL.valw (R.pickT rfl hb7 rfl) ?_
            exact WL.nil ⟨(orT hb7), (by repeat (first | refine agree_upd rfl ?_ | refine agree_upds' rfl ?_ | exact agree_refl)), rfl⟩
          · refine WL.gyes rfl rfl hb7 ?_
            refine WL.valw (R.mv (v := (int p_day)) rfl) ?_
            refine WL.gyes rfl rfl hb7 ?_
            refine WL.valw (R.lss rfl rfl) ?_
            refine WL.valw (R.pickF rfl hb7 rfl) ?_
            exact WL.nil ⟨(orF hb7), (by repeat (first | refine agree_upd rfl ?_ | refine agree_upds' rfl ?_ | exact agree_refl)), rfl⟩
        · intro us
          refine WL.valw (R.mv (v := (boo (((((decide (p_year < 1970)) || (decide (9999 < p_year))) || (decide (p_month < 1))) || (decide (12 < p_month))) || (decide (p_day < 1))))) rfl) ?_
          obtain ⟨b16, hg10, h⟩ := bindE h
          refine WL.grpw 6 [29, 30, 31, 32, 33] 34 (boo b16) (fun w => ∃ H' : Hp, H0.le H' ∧ St w0 H0 w H' []) ?_ ?_
          · rcases boolE (((((decide (p_year < 1970)) || (decide (9999 < p_year))) || (decide (p_month < 1))) || (decide (12 < p_month))) || (decide (p_day < 1))) with hb9 | hb9
            · replace hg10 := condT hg10 hb9
              refine WL.gno rfl rfl hb9 ?_
              refine WL.gno rfl rfl hb9 ?_
              refine WL.gno rfl rfl hb9 ?_
              refine WL.gno rfl rfl hb9 ?_
              refine WL.gno rfl rfl hb9 ?_
              refine WL.valw (R.pickT rfl hb9 rfl) ?_
              exact WL.nil ⟨(congrArg boo (Option.some.inj hg10)), (by repeat (first | refine agree_upd rfl ?_ | refine agree_upds' rfl ?_ | exact agree_refl)), ⟨H0, (Hp.le.refl _), S⟩⟩
            · replace hg10 := condF hg10 hb9
              refine WL.gyes rfl rfl hb9 ?_
              refine WL.valw (R.mv (v := (int p_day)) rfl) ?_
              refine WL.gyes rfl rfl hb9 ?_
              refine WL.valw (R.mv (v := (int p_year)) rfl) ?_
              refine WL.gyes rfl rfl hb9 ?_
              refine WL.valw (R.mv (v := (int p_month)) rfl) ?_
              refine WL.gyes rfl rfl hb9 ?_
              obtain ⟨r11, hr11, hg10⟩ := bindE hg10
              refine W.call S rfl (ref19_length_ok S.holds p_year p_month hr11) ?_
              rintro v12 w13 H14 hle15 S rfl
              refine WL.gyes rfl rfl hb9 ?_
              refine WL.valw (R.gtr rfl rfl) ?_
              refine WL.valw (R.pickF rfl hb9 rfl) ?_
              exact WL.nil ⟨(congrArg boo (Option.some.inj hg10)), (by repeat (first | refine agree_upd rfl ?_ | refine agree_upds' rfl ?_ | exact agree_refl)), ⟨H14, hle15, S⟩⟩
          · intro us w18 ⟨H17, hle19, S⟩
            refine WL.nil ?_
            rcases condE h with ⟨hc20, h⟩ | ⟨hc20, h⟩
            · refine WP.condT rfl hc20 ?_
              refine WP.seq ?_
              refine WP.region ?_
              refine WL.valw (R.as (v := (int (-1))) rfl) ?_
              refine WL.nil ?_
              obtain rfl := Option.some.inj h
              refine WP.ret (Out.one rfl S rfl ?_)
              exact rfl
            · refine WP.condF rfl hc20 ?_
              refine WP.skip ?_
              refine WP.seq ?_
              refine WP.region ?_
              refine WL.valw (R.mv (v := (int p_day)) rfl) ?_
              refine WL.valw (R.sub rfl rfl) ?_
              refine WL.valw (R.as (v := (int (wr (p_day - 1)))) rfl) ?_
              refine WL.nil ?_
              refine WP.seq ?_
              refine WP.seq ?_
              refine WP.region ?_
              refine WL.valw (R.as (v := (int 1970)) rfl) ?_
              refine WL.nil ?_
              obtain ⟨n_31, hr37, h⟩ := bindE h
              refine WP.cut (fun f w => ∃ (H28 : Hp), f 0 = (int p_year) ∧ f 1 = (int p_month) ∧ f 7 = (int n_31) ∧ St w0 H0 w H28 []) ?_ ?_
              · refine WP.block ?_
                refine WP.loopM (ref19_Days_L0 p_year) (fun s f w => match s with | (n_24, y_26) => ∃ (H21 : Hp), f 0 = (int p_year) ∧ f 1 = (int p_month) ∧ f 7 = (int n_24) ∧ f 8 = (int y_26) ∧ St w0 H0 w H21 []) (wr (p_day - 1), 1970) n_31 hr37 ?_ ?_
                · exact ⟨H17, rfl, rfl, rfl, rfl, S⟩
                · intro s f w hI y33 hy34 hy35
                  obtain ⟨n_24, y_26⟩ := s
                  obtain ⟨H21, h22, h23, h25, h27, S⟩ := hI
                  refine WP.seq ?_
                  refine WP.seq ?_
                  refine WP.region ?_
                  refine WL.valw (R.mv (v := (int y_26)) h27) ?_
                  refine WL.valw (R.mv (v := (int p_year)) h22) ?_
                  refine WL.valw (R.lss rfl rfl) ?_
                  refine WL.nil ?_
                  rcases condE hy34 with ⟨hc38, hy34⟩ | ⟨hc38, hy34⟩
                  · refine WP.condT rfl hc38 ?_
                    refine WP.skip ?_
                    refine WP.seq ?_
                    refine WP.block ?_
                    refine WP.seq ?_
                    refine WP.region ?_
                    refine WL.valw (R.mv (v := (int n_24)) h25) ?_
                    refine WL.valw (R.add rfl rfl) ?_
                    refine WL.valw (R.as (v := (int (wr (n_24 + 365)))) rfl) ?_
                    refine WL.nil ?_
                    refine WP.seq ?_
                    refine WP.region ?_
                    refine WL.valw (R.mv (v := (int y_26)) h27) ?_
                    obtain ⟨r39, hr39, hy34⟩ := bindE hy34
                    refine W.call S rfl (ref19_leap_ok S.holds y_26 hr39) ?_
                    rintro v40 w41 H42 hle43 S rfl
                    refine WL.nil ?_
                    rcases condE hy34 with ⟨hc44, hy34⟩ | ⟨hc44, hy34⟩
                    · refine WP.condT rfl hc44 ?_
                      refine WP.region ?_
                      refine WL.valw (R.mv (v := (int (wr (n_24 + 365)))) rfl) ?_
                      refine WL.valw (R.add rfl rfl) ?_
                      refine WL.valw (R.as (v := (int (wr ((wr (n_24 + 365)) + 1)))) rfl) ?_
                      refine WL.nil ?_
                      refine WP.region ?_
                      refine WL.valw (R.mv (v := (int y_26)) h27) ?_
                      refine WL.valw (R.add rfl rfl) ?_
                      refine WL.valw (R.as (v := (int (wr (y_26 + 1)))) rfl) ?_
                      refine WL.nil ?_
                      obtain rfl := Option.some.inj hy34
                      exact ⟨rfl, ⟨H42, h22, h23, rfl, rfl, S⟩⟩
                    · refine WP.condF rfl hc44 ?_
                      refine WP.skip ?_
                      refine WP.region ?_
                      refine WL.valw (R.mv (v := (int y_26)) h27) ?_
                      refine WL.valw (R.add rfl rfl) ?_
                      refine WL.valw (R.as (v := (int (wr (y_26 + 1)))) rfl) ?_
                      refine WL.nil ?_
                      obtain rfl := Option.some.inj hy34
                      exact ⟨rfl, ⟨H42, h22, h23, rfl, rfl, S⟩⟩
                  · refine WP.condF rfl hc38 ?_
                    refine WP.exit ?_
                    obtain rfl := Option.some.inj hy34
                    obtain rfl := hy35
                    exact ⟨H21, h22, h23, h25, S⟩
              · rintro f w ⟨H28, h29, h30, h32, S⟩
                refine WP.seq ?_
                refine WP.seq ?_
                refine WP.region ?_
                refine WL.valw (R.as (v := (int 1)) rfl) ?_
                refine WL.nil ?_
                obtain ⟨n_53, hr59, h⟩ := bindE h
                refine WP.cut (fun f w => ∃ (H52 : Hp), f 7 = (int n_53) ∧ St w0 H0 w H52 []) ?_ ?_
                · refine WP.block ?_
                  refine WP.loopM (ref19_Days_L1 p_year p_month) (fun s f w => match s with | (n_48, m_50) => ∃ (H45 : Hp), f 0 = (int p_year) ∧ f 1 = (int p_month) ∧ f 7 = (int n_48) ∧ f 9 = (int m_50) ∧ St w0 H0 w H45 []) (n_31, 1) n_53 hr59 ?_ ?_
                  · exact ⟨H28, h29, h30, h32, rfl, S⟩
                  · intro s f w hI y55 hy56 hy57
                    obtain ⟨n_48, m_50⟩ := s
                    obtain ⟨H45, h46, h47, h49, h51, S⟩ := hI
                    refine WP.seq ?_
                    refine WP.seq ?_
                    refine WP.region ?_
                    refine WL.valw (R.mv (v := (int m_50)) h51) ?_
                    refine WL.valw (R.mv (v := (int p_month)) h47) ?_
                    refine WL.valw (R.lss rfl rfl) ?_
                    refine WL.nil ?_
                    rcases condE hy56 with ⟨hc60, hy56⟩ | ⟨hc60, hy56⟩
                    · refine WP.condT rfl hc60 ?_
                      refine WP.skip ?_
                      refine WP.seq ?_
                      refine WP.block ?_
                      refine WP.region ?_
                      refine WL.valw (R.mv (v := (int n_48)) h49) ?_
                      refine WL.valw (R.mv (v := (int p_year)) h46) ?_
                      refine WL.valw (R.mv (v := (int m_50)) h51) ?_
                      obtain ⟨r61, hr61, hy56⟩ := bindE hy56
                      refine W.call S rfl (ref19_length_ok S.holds p_year m_50 hr61) ?_
                      rintro v62 w63 H64 hle65 S rfl
                      refine WL.valw (R.add rfl rfl) ?_
                      refine WL.valw (R.as (v := (int (wr (n_48 + r61)))) rfl) ?_
                      refine WL.nil ?_
                      refine WP.region ?_
                      refine WL.valw (R.mv (v := (int m_50)) h51) ?_
                      refine WL.valw (R.add rfl rfl) ?_
                      refine WL.valw (R.as (v := (int (wr (m_50 + 1)))) rfl) ?_
                      refine WL.nil ?_
                      obtain rfl := Option.some.inj hy56
                      exact ⟨rfl, ⟨H64, h46, h47, rfl, rfl, S⟩⟩
                    · refine WP.condF rfl hc60 ?_
                      refine WP.exit ?_
                      obtain rfl := Option.some.inj hy56
                      obtain rfl := hy57
                      exact ⟨H45, h49, S⟩
                · rintro f w ⟨H52, h54, S⟩
                  refine WP.seq ?_
                  refine WP.region ?_
                  refine WL.valw (R.mv (v := (int n_53)) h54) ?_
                  refine WL.valw (R.as (v := (int n_53)) rfl) ?_
                  refine WL.nil ?_
                  obtain rfl := Option.some.inj h
                  refine WP.ret (Out.one rfl S rfl ?_)
                  exact rfl
end Go.Proofs
