/- A part of the proof of laws of the seat: written by program over the translation. -/
import Derived.Test.YtmeemcjmhbgbdaaGreatDoorGenF8
namespace Go.Proofs
open Go.Eng Go.Eng.Pure
set_option linter.unusedVariables false
set_option maxRecDepth 10000 in
set_option maxHeartbeats 4000000 in
theorem storable_Unsafe_ok {w0 : World} {H0 : Hp} (hw : Holds w0 H0) (p_method : Str) {r : Bool} (h : storable_Unsafe p_method = some r) :
    Con Tryz.prog 14 [(str p_method)] w0 H0 (fun H' v => v = (boo r)) := by
  refine Con.mk (N := 17) Tryz.func14 rfl rfl (by kernel_rfl) rfl ?_
  have S := St.start hw
  refine WP.seq ?_
  refine WP.region ?_
  refine WL.valw (R.as (v := (boo false)) rfl) ?_
  refine WL.nil ?_
  refine WP.seq ?_
  refine WP.region ?_
  refine WL.valw (R.mv (v := (str p_method)) rfl) ?_
  refine WL.valw (R.neqS (a := p_method) (b := [71, 69, 84]) rfl rfl) ?_
  refine WL.valw (R.mv (v := (boo (p_method != [71, 69, 84]))) rfl) ?_
  refine WL.grp 3 [6, 7] 8 (boo ((p_method != [71, 69, 84]) && (p_method != [72, 69, 65, 68]))) ?_ ?_
  · rcases boolE (p_method != [71, 69, 84]) with hb1 | hb1
    · refine WL.gyes rfl rfl hb1 ?_
      refine WL.valw (R.mv (v := (str p_method)) rfl) ?_
      refine WL.gyes rfl rfl hb1 ?_
      refine WL.valw (R.neqS (a := p_method) (b := [72, 69, 65, 68]) rfl rfl) ?_
      refine WL.valw (R.pickT rfl hb1 rfl) ?_
      exact WL.nil ⟨(andT hb1), (by repeat (first | refine agree_upd rfl ?_ | refine agree_upds' rfl ?_ | exact agree_refl)), rfl⟩
    · refine WL.gno rfl rfl hb1 ?_
      refine WL.gno rfl rfl hb1 ?_
      refine WL.valw (R.pickF rfl hb1 rfl) ?_
      exact WL.nil ⟨(andF hb1), (by repeat (first | refine agree_upd rfl ?_ | refine agree_upds' rfl ?_ | exact agree_refl)), rfl⟩
  · intro us
    refine WL.valw (R.mv (v := (boo ((p_method != [71, 69, 84]) && (p_method != [72, 69, 65, 68])))) rfl) ?_
    refine WL.grp 3 [10, 11] 12 (boo (((p_method != [71, 69, 84]) && (p_method != [72, 69, 65, 68])) && (p_method != [79, 80, 84, 73, 79, 78, 83]))) ?_ ?_
    · rcases boolE ((p_method != [71, 69, 84]) && (p_method != [72, 69, 65, 68])) with hb3 | hb3
      · refine WL.gyes rfl rfl hb3 ?_
        refine WL.valw (R.mv (v := (str p_method)) rfl) ?_
        refine WL.gyes rfl rfl hb3 ?_
        refine WL.valw (R.neqS (a := p_method) (b := [79, 80, 84, 73, 79, 78, 83]) rfl rfl) ?_
        refine WL.valw (R.pickT rfl hb3 rfl) ?_
        exact WL.nil ⟨(andT hb3), (by repeat (first | refine agree_upd rfl ?_ | refine agree_upds' rfl ?_ | exact agree_refl)), rfl⟩
      · refine WL.gno rfl rfl hb3 ?_
        refine WL.gno rfl rfl hb3 ?_
        refine WL.valw (R.pickF rfl hb3 rfl) ?_
        exact WL.nil ⟨(andF hb3), (by repeat (first | refine agree_upd rfl ?_ | refine agree_upds' rfl ?_ | exact agree_refl)), rfl⟩
    · intro us
      refine WL.valw (R.mv (v := (boo (((p_method != [71, 69, 84]) && (p_method != [72, 69, 65, 68])) && (p_method != [79, 80, 84, 73, 79, 78, 83])))) rfl) ?_
      refine WL.grp 3 [14, 15] 16 (boo ((((p_method != [71, 69, 84]) && (p_method != [72, 69, 65, 68])) && (p_method != [79, 80, 84, 73, 79, 78, 83])) && (p_method != [84, 82, 65, 67, 69]))) ?_ ?_
      · rcases boolE (((p_method != [71, 69, 84]) && (p_method != [72, 69, 65, 68])) && (p_method != [79, 80, 84, 73, 79, 78, 83])) with hb5 | hb5
        · refine WL.gyes rfl rfl hb5 ?_
          refine WL.valw (R.mv (v := (str p_method)) rfl) ?_
          refine WL.gyes rfl rfl hb5 ?_
          refine WL.valw (R.neqS (a := p_method) (b := [84, 82, 65, 67, 69]) rfl rfl) ?_
          refine WL.valw (R.pickT rfl hb5 rfl) ?_
          exact WL.nil ⟨(andT hb5), (by repeat (first | refine agree_upd rfl ?_ | refine agree_upds' rfl ?_ | exact agree_refl)), rfl⟩
        · refine WL.gno rfl rfl hb5 ?_
          refine WL.gno rfl rfl hb5 ?_
          refine WL.valw (R.pickF rfl hb5 rfl) ?_
          exact WL.nil ⟨(andF hb5), (by repeat (first | refine agree_upd rfl ?_ | refine agree_upds' rfl ?_ | exact agree_refl)), rfl⟩
      · intro us
        refine WL.valw (R.as (v := (boo ((((p_method != [71, 69, 84]) && (p_method != [72, 69, 65, 68])) && (p_method != [79, 80, 84, 73, 79, 78, 83])) && (p_method != [84, 82, 65, 67, 69])))) rfl) ?_
        refine WL.nil ?_
        obtain rfl := Option.some.inj h
        refine WP.ret (Out.one rfl S rfl ?_)
        exact rfl
set_option maxRecDepth 10000 in
set_option maxHeartbeats 4000000 in
theorem law24_awake_ok {w0 : World} {H0 : Hp} (hw : Holds w0 H0) {r : Bool} (h : law24_awake = some r) :
    Con Tryz.prog 10 [] w0 H0 (fun H' v => v = (boo r)) := by
  refine Con.mk (N := 19) Tryz.func10 rfl rfl (by kernel_rfl) rfl ?_
  have S := St.start hw
  refine WP.seq ?_
  refine WP.region ?_
  refine WL.valw (R.as (v := (boo false)) rfl) ?_
  refine WL.nil ?_
  refine WP.seq ?_
  refine WP.region ?_
  refine WL.valw (R.build [(0, (str [71, 69, 84]))] [(str [71, 69, 84]), (str []), (int 0), (.slice none 0 0), (str [])] bp24 zer24 rfl rfl) ?_
  refine W.alloc [(str []), (str []), (int 0), (.slice none 0 0), (str [])] S zer24 ?_
  intro b1 w2 S
  refine W.store (i := 0) [(str [71, 69, 84]), (str []), (int 0), (.slice none 0 0), (str [])] S rfl rfl rfl lay24 rfl (AllOne.all (l := [(str [71, 69, 84]), (str []), (int 0), (.slice none 0 0), (str [])]) (.cons rfl (.cons rfl (.cons rfl (.cons rfl (.cons rfl .nil)))))) (Nat.le_of_ble_eq_true rfl) rfl ?_
  intro w3 S
  refine WL.nil ?_
  refine WP.seq ?_
  refine WP.region ?_
  refine WL.valw (R.build [(0, (str [67, 97, 99, 104, 101, 45, 67, 111, 110, 116, 114, 111, 108])), (1, (str [109, 97, 120, 45, 97, 103, 101, 61, 49]))] [(str [67, 97, 99, 104, 101, 45, 67, 111, 110, 116, 114, 111, 108]), (str [109, 97, 120, 45, 97, 103, 101, 61, 49])] bp42 zer42 rfl rfl) ?_
  refine W.bslice (α := GField) [(agg [(str [67, 97, 99, 104, 101, 45, 67, 111, 110, 116, 114, 111, 108]), (str [109, 97, 120, 45, 97, 103, 101, 61, 49])])] ([(⟨[67, 97, 99, 104, 101, 45, 67, 111, 110, 116, 114, 111, 108], [109, 97, 120, 45, 97, 103, 101, 61, 49]⟩ : GField)] : List GField) S el22 rfl rfl rfl (by decide) (Go.Eng.encS ⟨rfl, rfl⟩ enc0) ?_
  intro u4 w5 H6 hle7 R8 S
  refine WL.valw (R.build [(1, (int 200)), (3, u4)] [(int 0), (int 200), (str []), u4, (str [])] bp26 zer26 rfl (by obtain ⟨_, _, rfl, _⟩ := R8; rfl)) ?_
  refine W.alloc [(int 0), (int 0), (str []), (.slice none 0 0), (str [])] S zer26 ?_
  intro b9 w10 S
  refine W.store (i := 0) [(int 0), (int 200), (str []), u4, (str [])] S rfl rfl rfl lay26 rfl (AllOne.all (l := [(int 0), (int 200), (str []), u4, (str [])]) (.cons rfl (.cons rfl (.cons rfl (.cons (Sl.oneC R8) (.cons rfl .nil)))))) (Nat.le_of_ble_eq_true rfl) rfl ?_
  intro w11 S
  refine WL.nil ?_
  refine WP.seq ?_
  refine WP.region ?_
  refine WL.valw (R.loadBN (i := 2) (vs := [(str [71, 69, 84]), (str []), (int 0), (.slice none 0 0), (str [])]) S rfl rfl lay24 rfl rfl) ?_
  refine WL.valw (R.loadBN (i := 0) (vs := [(int 0), (int 200), (str []), u4, (str [])]) S rfl rfl lay26 rfl rfl) ?_
  obtain ⟨r12, hr12, h⟩ := bindE h
  refine W.call S rfl (storable_Storable_ok S.holds (⟨[71, 69, 84], [], 0, ([] : List GField), []⟩ : GRequest) (⟨0, 200, [], ([(⟨[67, 97, 99, 104, 101, 45, 67, 111, 110, 116, 114, 111, 108], [109, 97, 120, 45, 97, 103, 101, 61, 49]⟩ : GField)] : List GField), []⟩ : GResponse) Sl.nil R8 hr12) ?_
  rintro v13 w14 H15 hle16 S rfl
  have R8 := Sl.mono R8 hle16
  refine WL.valw (R.mv (v := (boo r12)) rfl) ?_
  obtain ⟨b24, hg18, h⟩ := bindE h
  refine WL.grpw 5 [11, 12, 13, 14] 15 (boo b24) (fun w => ∃ H' : Hp, H15.le H' ∧ St w0 H0 w H' [.box b9 26 [(int 0), (int 200), (str []), u4, (str [])], .row u4 42 2 ([(⟨[67, 97, 99, 104, 101, 45, 67, 111, 110, 116, 114, 111, 108], [109, 97, 120, 45, 97, 103, 101, 61, 49]⟩ : GField)] : List GField).length, .box b1 24 [(str [71, 69, 84]), (str []), (int 0), (.slice none 0 0), (str [])]]) ?_ ?_
  · rcases boolE r12 with hb17 | hb17
    · replace hg18 := condT hg18 hb17
      refine WL.gyes rfl rfl hb17 ?_
      refine WL.valw (R.loadBN (i := 2) (vs := [(str [71, 69, 84]), (str []), (int 0), (.slice none 0 0), (str [])]) S rfl rfl lay24 rfl rfl) ?_
      refine WL.gyes rfl rfl hb17 ?_
      refine WL.valw (R.build [(1, (int 200))] [(int 0), (int 200), (str []), (.slice none 0 0), (str [])] bp26 zer26 rfl rfl) ?_
      refine WL.gyes rfl rfl hb17 ?_
      obtain ⟨r19, hr19, hg18⟩ := bindE hg18
      refine W.call S rfl (storable_Storable_ok S.holds (⟨[71, 69, 84], [], 0, ([] : List GField), []⟩ : GRequest) (⟨0, 200, [], ([] : List GField), []⟩ : GResponse) Sl.nil Sl.nil hr19) ?_
      rintro v20 w21 H22 hle23 S rfl
      have R8 := Sl.mono R8 hle23
      refine WL.gyes rfl rfl hb17 ?_
      refine WL.valw (R.not rfl) ?_
      refine WL.valw (R.pickT rfl hb17 rfl) ?_
      exact WL.nil ⟨(congrArg boo (Option.some.inj hg18)), (by repeat (first | refine agree_upd rfl ?_ | refine agree_upds' rfl ?_ | exact agree_refl)), ⟨H22, hle23, S⟩⟩
    · replace hg18 := condF hg18 hb17
      refine WL.gno rfl rfl hb17 ?_
      refine WL.gno rfl rfl hb17 ?_
      refine WL.gno rfl rfl hb17 ?_
      refine WL.gno rfl rfl hb17 ?_
      refine WL.valw (R.pickF rfl hb17 rfl) ?_
      exact WL.nil ⟨(congrArg boo (Option.some.inj hg18)), (by repeat (first | refine agree_upd rfl ?_ | refine agree_upds' rfl ?_ | exact agree_refl)), ⟨H15, (Hp.le.refl _), S⟩⟩
  · intro us w26 ⟨H25, hle27, S⟩
    have R8 := Sl.mono R8 hle27
    refine WL.valw (R.mv (v := (boo b24)) rfl) ?_
    obtain ⟨b35, hg29, h⟩ := bindE h
    refine WL.grpw 2 [17] 18 (boo b35) (fun w => ∃ H' : Hp, H25.le H' ∧ St w0 H0 w H' [.box b9 26 [(int 0), (int 200), (str []), u4, (str [])], .row u4 42 2 ([(⟨[67, 97, 99, 104, 101, 45, 67, 111, 110, 116, 114, 111, 108], [109, 97, 120, 45, 97, 103, 101, 61, 49]⟩ : GField)] : List GField).length, .box b1 24 [(str [71, 69, 84]), (str []), (int 0), (.slice none 0 0), (str [])]]) ?_ ?_
    · rcases boolE b24 with hb28 | hb28
      · replace hg29 := condT hg29 hb28
        refine WL.gyes rfl rfl hb28 ?_
        obtain ⟨r30, hr30, hg29⟩ := bindE hg29
        refine W.call S rfl (storable_Unsafe_ok S.holds [80, 79, 83, 84] hr30) ?_
        rintro v31 w32 H33 hle34 S rfl
        have R8 := Sl.mono R8 hle34
        refine WL.valw (R.pickT rfl hb28 rfl) ?_
        exact WL.nil ⟨(congrArg boo (Option.some.inj hg29)), (by repeat (first | refine agree_upd rfl ?_ | refine agree_upds' rfl ?_ | exact agree_refl)), ⟨H33, hle34, S⟩⟩
      · replace hg29 := condF hg29 hb28
        refine WL.gno rfl rfl hb28 ?_
        refine WL.valw (R.pickF rfl hb28 rfl) ?_
        exact WL.nil ⟨(congrArg boo (Option.some.inj hg29)), (by repeat (first | refine agree_upd rfl ?_ | refine agree_upds' rfl ?_ | exact agree_refl)), ⟨H25, (Hp.le.refl _), S⟩⟩
    · intro us w37 ⟨H36, hle38, S⟩
      have R8 := Sl.mono R8 hle38
      refine WL.valw (R.as (v := (boo b35)) rfl) ?_
      refine WL.nil ?_
      obtain rfl := Option.some.inj h
      refine WP.ret (Out.one rfl S rfl ?_)
      exact rfl
end Go.Proofs
