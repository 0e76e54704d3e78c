/- A part of the proof of laws of the seat: written by program over the translation. -/
import Derived.Test.YtggmjoffcdnplaaDoorGenB4
namespace Go.Proofs
open Go.Eng Go.Eng.Pure
set_option linter.unusedVariables false
set_option maxHeartbeats 4000000 in
theorem ref19_ParseETag_ok {w0 : World} {H0 : Hp} (hw : Holds w0 H0) (p_s : Str) {r : (GETag × Bool)} (h : ref19_ParseETag p_s = some r) :
    Con Tryd.prog 54 [(str p_s)] w0 H0 (fun H' v => v = (.tuple ⟨[(agg [(boo r.1.fWeak), (str r.1.fTag)]), (boo r.2)]⟩)) := by
  refine Con.mk (N := 49) Tryd.func54 rfl rfl (by kernel_rfl) rfl ?_
  have S := St.start hw
  refine WP.seq ?_
  refine WP.region ?_
  refine W.alloc [(boo false), (str [])] S zer45 ?_
  intro b1 w2 S
  refine WL.valw (R.as (v := (boo false)) rfl) ?_
  refine WL.nil ?_
  refine WP.seq ?_
  refine WP.region ?_
  refine W.alloc [(boo false), (str [])] S zer45 ?_
  intro b3 w4 S
  refine WL.nil ?_
  refine WP.seq ?_
  refine WP.seq ?_
  refine WP.region ?_
  refine WL.valw (R.mv (v := (str p_s)) rfl) ?_
  refine WL.valw (R.lenS (a := p_s) rfl Tryd.underlying9) ?_
  refine WL.valw (R.gtr rfl rfl) ?_
  refine WL.valw (R.mv (v := (boo (decide (2 < (p_s.length : Int))))) rfl) ?_
  obtain ⟨b8, hg6, h⟩ := bindE h
  refine WL.grp 4 [9, 10, 11] 12 (boo b8) ?_ ?_
  · rcases boolE (decide (2 < (p_s.length : Int))) with hb5 | hb5
    · replace hg6 := condT hg6 hb5
      refine WL.gyes rfl rfl hb5 ?_
      refine WL.valw (R.mv (v := (str p_s)) rfl) ?_
      refine WL.gyes rfl rfl hb5 ?_
      obtain ⟨s7, hs7, hg6⟩ := bindE hg6
      refine WL.valw (R.subShi rfl rfl Tryd.underlying9 hs7) ?_
      refine WL.gyes rfl rfl hb5 ?_
      refine WL.valw (R.eqlS (a := s7) (b := [87, 47]) rfl rfl) ?_
      refine WL.valw (R.pickT rfl hb5 rfl) ?_
      exact WL.nil ⟨(congrArg boo (Option.some.inj hg6)), (by repeat (first | refine agree_upd rfl ?_ | refine agree_upds' rfl ?_ | exact agree_refl)), rfl⟩
    · replace hg6 := condF hg6 hb5
      refine WL.gno rfl rfl hb5 ?_
      refine WL.gno rfl rfl hb5 ?_
      refine WL.gno rfl rfl hb5 ?_
      refine WL.valw (R.pickF rfl hb5 rfl) ?_
      exact WL.nil ⟨(congrArg boo (Option.some.inj hg6)), (by repeat (first | refine agree_upd rfl ?_ | refine agree_upds' rfl ?_ | exact agree_refl)), rfl⟩
  · intro us
    refine WL.nil ?_
    obtain ⟨⟨s_10, m14, m15⟩, hj16, h⟩ := bindE h
    refine WP.cut (fun f w => ∃ (H9 : Hp), f 0 = (str s_10) ∧ f 2 = (ptr b1 0) ∧ f 4 = (ptr b3 0) ∧ St w0 H0 w H9 [.box b3 45 [(boo m14), (str m15)], .box b1 45 [(boo false), (str [])]]) ?_ ?_
    · rcases condE hj16 with ⟨hc18, hj16⟩ | ⟨hc18, hj16⟩
      · refine WP.condT rfl hc18 ?_
        refine WP.draw (by kernel_rfl) 5 rfl #[false, false, false, false, false] rfl ?_
        have S := S.drew
        refine WA.take (i := 0) #[true, false, false, false, false] rfl (by kernel_rfl) (by kernel_rfl) (by kernel_rfl) rfl (fun _ => (R.mv (v := (str p_s)) rfl)) ?_
        obtain ⟨s19, hs19, hj16⟩ := bindE hj16
        refine WA.take (i := 1) #[true, true, false, false, false] rfl (by kernel_rfl) (by kernel_rfl) (by kernel_rfl) rfl (fun _ => (R.subSlo rfl rfl Tryd.underlying9 hs19)) ?_
        refine WA.take (i := 2) #[true, true, true, false, false] rfl (by kernel_rfl) (by kernel_rfl) (by kernel_rfl) rfl (fun _ => (R.fieldB rfl fld45_0)) ?_
        refine WA.one (i := 3) #[true, true, true, true, false] rfl (by kernel_rfl) rfl ?_
        refine W.store (i := 0) [(boo true), (str [])] S rfl rfl rfl lay4 rfl rfl (Nat.le_of_ble_eq_true rfl) rfl ?_
        intro w20 S
        refine WL.nil ?_
        refine WA.take (i := 4) #[true, true, true, true, true] rfl (by kernel_rfl) (by kernel_rfl) (by kernel_rfl) rfl (fun _ => (R.as (v := (str s19)) rfl)) ?_
        refine WA.done (by kernel_rfl) ?_
        cases Option.some.inj hj16
        exact ⟨H0, rfl, rfl, rfl, S⟩
      · refine WP.condF rfl hc18 ?_
        refine WP.skip ?_
        cases Option.some.inj hj16
        exact ⟨H0, rfl, rfl, rfl, S⟩
    · rintro f w ⟨H9, h11, h12, h13, S⟩
      refine WP.seq ?_
      refine WP.seq ?_
      refine WP.region ?_
      refine WL.valw (R.mv (v := (str s_10)) h11) ?_
      refine WL.valw (R.lenS (a := s_10) rfl Tryd.underlying9) ?_
      refine WL.valw (R.lss rfl rfl) ?_
      refine WL.valw (R.mv (v := (boo (decide ((s_10.length : Int) < 2)))) rfl) ?_
      obtain ⟨b24, hg22, h⟩ := bindE h
      refine WL.grp 4 [20, 21, 22] 23 (boo b24) ?_ ?_
      · rcases boolE (decide ((s_10.length : Int) < 2)) with hb21 | hb21
        · replace hg22 := condT hg22 hb21
          refine WL.gno rfl rfl hb21 ?_
          refine WL.gno rfl rfl hb21 ?_
          refine WL.gno rfl rfl hb21 ?_
          refine WL.valw (R.pickT rfl hb21 rfl) ?_
          exact WL.nil ⟨(congrArg boo (Option.some.inj hg22)), (by repeat (first | refine agree_upd rfl ?_ | refine agree_upds' rfl ?_ | exact agree_refl)), rfl⟩
        · replace hg22 := condF hg22 hb21
          refine WL.gyes rfl rfl hb21 ?_
          refine WL.valw (R.mv (v := (str s_10)) h11) ?_
          refine WL.gyes rfl rfl hb21 ?_
          obtain ⟨c23, hc23, hg22⟩ := bindE hg22
          refine WL.valw (R.idxS rfl rfl Tryd.underlying9 hc23) ?_
          refine WL.gyes rfl rfl hb21 ?_
          refine WL.valw (R.neq8 (a := c23) (b := 34) rfl rfl) ?_
          refine WL.valw (R.pickF rfl hb21 rfl) ?_
          exact WL.nil ⟨(congrArg boo (Option.some.inj hg22)), (by repeat (first | refine agree_upd rfl ?_ | refine agree_upds' rfl ?_ | exact agree_refl)), rfl⟩
      · intro us
        refine WL.valw (R.mv (v := (boo b24)) rfl) ?_
        obtain ⟨b28, hg26, h⟩ := bindE h
        refine WL.grp 7 [25, 26, 27, 28, 29, 30] 31 (boo b28) ?_ ?_
        · rcases boolE b24 with hb25 | hb25
          · replace hg26 := condT hg26 hb25
            refine WL.gno rfl rfl hb25 ?_
            refine WL.gno rfl rfl hb25 ?_
            refine WL.gno rfl rfl hb25 ?_
            refine WL.gno rfl rfl hb25 ?_
            refine WL.gno rfl rfl hb25 ?_
            refine WL.gno rfl rfl hb25 ?_
            refine WL.valw (R.pickT rfl hb25 rfl) ?_
            exact WL.nil ⟨(congrArg boo (Option.some.inj hg26)), (by repeat (first | refine agree_upd rfl ?_ | refine agree_upds' rfl ?_ | exact agree_refl)), rfl⟩
          · replace hg26 := condF hg26 hb25
            refine WL.gyes rfl rfl hb25 ?_
            refine WL.valw (R.mv (v := (str s_10)) h11) ?_
            refine WL.gyes rfl rfl hb25 ?_
            refine WL.valw (R.mv (v := (str s_10)) h11) ?_
            refine WL.gyes rfl rfl hb25 ?_
            refine WL.valw (R.lenS (a := s_10) rfl Tryd.underlying9) ?_
            refine WL.gyes rfl rfl hb25 ?_
            refine WL.valw (R.sub rfl rfl) ?_
            refine WL.gyes rfl rfl hb25 ?_
            obtain ⟨c27, hc27, hg26⟩ := bindE hg26
            refine WL.valw (R.idxS rfl rfl Tryd.underlying9 hc27) ?_
            refine WL.gyes rfl rfl hb25 ?_
            refine WL.valw (R.neq8 (a := c27) (b := 34) rfl rfl) ?_
            refine WL.valw (R.pickF rfl hb25 rfl) ?_
            exact WL.nil ⟨(congrArg boo (Option.some.inj hg26)), (by repeat (first | refine agree_upd rfl ?_ | refine agree_upds' rfl ?_ | exact agree_refl)), rfl⟩
        · intro us
          refine WL.valw (R.mv (v := (boo b28)) rfl) ?_
          obtain ⟨b37, hg30, h⟩ := bindE h
          refine WL.grpw 8 [33, 34, 35, 36, 37, 38, 39] 40 (boo b37) (fun w => ∃ H' : Hp, H9.le H' ∧ St w0 H0 w H' [.box b3 45 [(boo m14), (str m15)], .box b1 45 [(boo false), (str [])]]) ?_ ?_
          · rcases boolE b28 with hb29 | hb29
            · replace hg30 := condT hg30 hb29
              refine WL.gno rfl rfl hb29 ?_
              refine WL.gno rfl rfl hb29 ?_
              refine WL.gno rfl rfl hb29 ?_
              refine WL.gno rfl rfl hb29 ?_
              refine WL.gno rfl rfl hb29 ?_
              refine WL.gno rfl rfl hb29 ?_
              refine WL.gno rfl rfl hb29 ?_
              refine WL.valw (R.pickT rfl hb29 rfl) ?_
              exact WL.nil ⟨(congrArg boo (Option.some.inj hg30)), (by repeat (first | refine agree_upd rfl ?_ | refine agree_upds' rfl ?_ | exact agree_refl)), ⟨H9, (Hp.le.refl _), S⟩⟩
            · replace hg30 := condF hg30 hb29
              refine WL.gyes rfl rfl hb29 ?_
              refine WL.valw (R.mv (v := (str s_10)) h11) ?_
              refine WL.gyes rfl rfl hb29 ?_
              refine WL.valw (R.mv (v := (str s_10)) h11) ?_
              refine WL.gyes rfl rfl hb29 ?_
              refine WL.valw (R.lenS (a := s_10) rfl Tryd.underlying9) ?_
              refine WL.gyes rfl rfl hb29 ?_
              refine WL.valw (R.sub rfl rfl) ?_
              refine WL.gyes rfl rfl hb29 ?_
              obtain ⟨s31, hs31, hg30⟩ := bindE hg30
              refine WL.valw (R.subS rfl rfl rfl Tryd.underlying9 hs31) ?_
              refine WL.gyes rfl rfl hb29 ?_
              obtain ⟨r32, hr32, hg30⟩ := bindE hg30
              refine W.call S rfl (ref19_tagText_ok S.holds s31 hr32) ?_
              rintro v33 w34 H35 hle36 S rfl
              refine WL.gyes rfl rfl hb29 ?_
              refine WL.valw (R.not rfl) ?_
              refine WL.valw (R.pickF rfl hb29 rfl) ?_
              exact WL.nil ⟨(congrArg boo (Option.some.inj hg30)), (by repeat (first | refine agree_upd rfl ?_ | refine agree_upds' rfl ?_ | exact agree_refl)), ⟨H35, hle36, S⟩⟩
          · intro us w39 ⟨H38, hle40, S⟩
            refine WL.nil ?_
            rcases condE h with ⟨hc41, h⟩ | ⟨hc41, h⟩
            · refine WP.condT rfl hc41 ?_
              refine WP.seq ?_
              refine WP.region ?_
              refine WL.valw (R.build [] [(boo false), (str [])] bp45 zer45 rfl rfl) ?_
              refine W.store (i := 1) [(boo false), (str [])] S h12 rfl rfl lay45 rfl rfl (Nat.le_of_ble_eq_true rfl) rfl ?_
              intro w42 S
              refine WL.valw (R.as (v := (boo false)) rfl) ?_
              refine WL.nil ?_
              obtain rfl := Option.some.inj h
              refine WP.ret (Out.two rfl S (Res.cellB (i := 1) (cs := [(boo false), (str [])]) S h12 rfl lay45 rfl rfl) rfl ?_)
              exact rfl
            · refine WP.condF rfl hc41 ?_
              refine WP.skip ?_
              refine WP.seq ?_
              refine WP.region ?_
              refine WL.valw (R.mv (v := (str s_10)) h11) ?_
              refine WL.valw (R.mv (v := (str s_10)) h11) ?_
              refine WL.valw (R.lenS (a := s_10) rfl Tryd.underlying9) ?_
              refine WL.valw (R.sub rfl rfl) ?_
              obtain ⟨s43, hs43, h⟩ := bindE h
              refine WL.valw (R.subS rfl rfl rfl Tryd.underlying9 hs43) ?_
              refine WL.valw (R.fieldB h13 fld45_1) ?_
              refine W.store (i := 0) [(boo m14), (str s43)] S rfl rfl rfl lay9 rfl rfl (Nat.le_of_ble_eq_true rfl) rfl ?_
              intro w44 S
              refine WL.nil ?_
              refine WP.seq ?_
              refine WP.region ?_
              refine WL.valw (R.loadBN (i := 0) (vs := [(boo m14), (str s43)]) S h13 rfl lay45 rfl rfl) ?_
              refine W.store (i := 1) [(boo m14), (str s43)] S h12 rfl rfl lay45 rfl rfl (Nat.le_of_ble_eq_true rfl) rfl ?_
              intro w45 S
              refine WL.valw (R.as (v := (boo true)) rfl) ?_
              refine WL.nil ?_
              obtain rfl := Option.some.inj h
              refine WP.ret (Out.two rfl S (Res.cellB (i := 1) (cs := [(boo m14), (str s43)]) S h12 rfl lay45 rfl rfl) rfl ?_)
              exact rfl
set_option maxHeartbeats 4000000 in
theorem ref19_ETagOf_ok {w0 : World} {H0 : Hp} (hw : Holds w0 H0) (p_l : (List GField)) {vp_l : Value} (Rp_l : Sl (α := GField) H0 vp_l p_l) {r : (GETag × Bool)} (h : ref19_ETagOf p_l = some r) :
    Con Tryd.prog 34 [vp_l] w0 H0 (fun H' v => v = (.tuple ⟨[(agg [(boo r.1.fWeak), (str r.1.fTag)]), (boo r.2)]⟩)) := by
  refine Con.mk (N := 18) Tryd.func34 rfl rfl (by kernel_rfl) rfl ?_
  have S := St.start hw
  refine WP.seq ?_
  refine WP.region ?_
  refine W.alloc [(boo false), (str [])] S zer45 ?_
  intro b1 w2 S
  refine WL.valw (R.as (v := (boo false)) rfl) ?_
  refine WL.nil ?_
  refine WP.seq ?_
  refine WP.region ?_
  refine WL.valw (R.mv (v := vp_l) rfl) ?_
  obtain ⟨r3, hr3, h⟩ := bindE h
  refine W.call S rfl (ref01_First_ok S.holds p_l [69, 84, 97, 103] Rp_l hr3) ?_
  rintro v4 w5 H6 hle7 S rfl
  have Rp_l := Sl.mono Rp_l hle7
  refine WL.valw (R.mv (v := (.tuple ⟨[(str r3.1), (boo r3.2)]⟩)) rfl) ?_
  refine WL.valw (R.ext rfl rfl) ?_
  refine WL.valw (R.ext rfl rfl) ?_
  refine WL.valw (R.as (v := (str r3.1)) rfl) ?_
  refine WL.valw (R.as (v := (boo r3.2)) rfl) ?_
  refine WL.nil ?_
  refine WP.seq ?_
  refine WP.seq ?_
  refine WP.region ?_
  refine WL.valw (R.mv (v := (boo r3.2)) rfl) ?_
  refine WL.valw (R.not rfl) ?_
  refine WL.nil ?_
  rcases condE h with ⟨hc8, h⟩ | ⟨hc8, h⟩
  · refine WP.condT rfl hc8 ?_
    refine WP.seq ?_
    refine WP.region ?_
    refine WL.valw (R.build [] [(boo false), (str [])] bp45 zer45 rfl rfl) ?_
    refine W.store (i := 0) [(boo false), (str [])] S rfl rfl rfl lay45 rfl rfl (Nat.le_of_ble_eq_true rfl) rfl ?_
    intro w9 S
    refine WL.valw (R.as (v := (boo false)) rfl) ?_
    refine WL.nil ?_
    obtain rfl := Option.some.inj h
    refine WP.ret (Out.two rfl S (Res.cellB (i := 0) (cs := [(boo false), (str [])]) S rfl rfl lay45 rfl rfl) rfl ?_)
    exact rfl
  · refine WP.condF rfl hc8 ?_
    refine WP.skip ?_
    refine WP.seq ?_
    refine WP.region ?_
    refine WL.valw (R.mv (v := (str r3.1)) rfl) ?_
    obtain ⟨r10, hr10, h⟩ := bindE h
    refine W.call S rfl (ref19_ParseETag_ok S.holds r3.1 hr10) ?_
    rintro v11 w12 H13 hle14 S rfl
    have Rp_l := Sl.mono Rp_l hle14
    refine WL.valw (R.ext rfl rfl) ?_
    refine WL.valw (R.ext rfl rfl) ?_
    refine W.store (i := 0) [(boo r10.1.fWeak), (str r10.1.fTag)] S rfl rfl rfl lay45 rfl rfl (Nat.le_of_ble_eq_true rfl) rfl ?_
    intro w15 S
    refine WL.valw (R.as (v := (boo r10.2)) rfl) ?_
    refine WL.nil ?_
    obtain rfl := Option.some.inj h
    refine WP.ret (Out.two rfl S (Res.cellB (i := 0) (cs := [(boo r10.1.fWeak), (str r10.1.fTag)]) S rfl rfl lay45 rfl rfl) rfl ?_)
    exact rfl
set_option maxHeartbeats 4000000 in
theorem ref19_ETagList_ok {w0 : World} {H0 : Hp} (hw : Holds w0 H0) (p_l : (List GField)) (p_name : Str) {vp_l : Value} (Rp_l : Sl (α := GField) H0 vp_l p_l) {r : ((List GETag) × Bool × Bool)} (h : ref19_ETagList p_l p_name = some r) :
    Con Tryd.prog 35 [vp_l, (str p_name)] w0 H0 (fun H' v => ∃ u1 : Value, v = (.tuple ⟨[u1, (boo r.2.1), (boo r.2.2)]⟩) ∧ Sl (α := GETag) H' u1 r.1) := by
  refine Con.mk (N := 53) Tryd.func35 rfl rfl (by kernel_rfl) rfl ?_
  have S := St.start hw
  refine WP.seq ?_
  refine WP.region ?_
  refine WL.valw (R.as (v := (.slice none 0 0)) rfl) ?_
  refine WL.valw (R.as (v := (boo false)) rfl) ?_
  refine WL.valw (R.as (v := (boo false)) rfl) ?_
  refine WL.nil ?_
  refine WP.seq ?_
  refine WP.region ?_
  refine WL.valw (R.mv (v := vp_l) rfl) ?_
  refine WL.valw (R.mv (v := (str p_name)) rfl) ?_
  obtain ⟨r1, hr1, h⟩ := bindE h
  refine W.call S rfl (ref01_All_ok S.holds p_l p_name Rp_l hr1) ?_
  rintro v2 w3 H4 hle5 S R6
  have Rp_l := Sl.mono Rp_l hle5
  refine WL.valw (R.as (v := v2) rfl) ?_
  refine WL.nil ?_
  refine WP.seq ?_
  refine WP.seq ?_
  refine WP.region ?_
  refine WL.valw (R.mv (v := v2) rfl) ?_
  refine WL.valw (R.lenL (α := Str) (xs := r1) (H := H4) R6 rfl Tryd.underlying31) ?_
  refine WL.valw (R.eql rfl rfl) ?_
  refine WL.valw (R.mv (v := (boo ((r1.length : Int) == 1))) rfl) ?_
  obtain ⟨b12, hg8, h⟩ := bindE h
  refine WL.grp 5 [19, 20, 21, 22] 23 (boo b12) ?_ ?_
  · rcases boolE ((r1.length : Int) == 1) with hb7 | hb7
    · replace hg8 := condT hg8 hb7
      refine WL.gyes rfl rfl hb7 ?_
      refine WL.valw (R.mv (v := v2) rfl) ?_
      refine WL.gyes rfl rfl hb7 ?_
      obtain ⟨x9, hx9, hg8⟩ := bindE hg8
      refine W.idx (α := Str) R6 rfl rfl el31 hx9 ?_
      rintro a10 _ hA11 rfl
      refine WL.gyes rfl rfl hb7 ?_
      refine WL.valw (R.loadH (v := (str x9)) S rfl hA11 lay9 rfl) ?_
      refine WL.gyes rfl rfl hb7 ?_
      refine WL.valw (R.eqlS (a := x9) (b := [42]) rfl rfl) ?_
      refine WL.valw (R.pickT rfl hb7 rfl) ?_
      exact WL.nil ⟨(congrArg boo (Option.some.inj hg8)), (by repeat (first | refine agree_upd rfl ?_ | refine agree_upds' rfl ?_ | exact agree_refl)), rfl⟩
    · replace hg8 := condF hg8 hb7
      refine WL.gno rfl rfl hb7 ?_
      refine WL.gno rfl rfl hb7 ?_
      refine WL.gno rfl rfl hb7 ?_
      refine WL.gno rfl rfl hb7 ?_
      refine WL.valw (R.pickF rfl hb7 rfl) ?_
      exact WL.nil ⟨(congrArg boo (Option.some.inj hg8)), (by repeat (first | refine agree_upd rfl ?_ | refine agree_upds' rfl ?_ | exact agree_refl)), rfl⟩
  · intro us
    refine WL.nil ?_
    rcases condE h with ⟨hc13, h⟩ | ⟨hc13, h⟩
    · refine WP.condT rfl hc13 ?_
      refine WP.seq ?_
      refine WP.region ?_
      refine WL.valw (R.as (v := (.slice none 0 0)) rfl) ?_
      refine WL.valw (R.as (v := (boo true)) rfl) ?_
      refine WL.valw (R.as (v := (boo true)) rfl) ?_
      refine WL.nil ?_
      obtain rfl := Option.some.inj h
      refine WP.ret (Out.three rfl S rfl rfl rfl ?_)
      exact ⟨_, rfl, Sl.nil⟩
    · refine WP.condF rfl hc13 ?_
      refine WP.skip ?_
      refine WP.seq ?_
      refine WP.seq ?_
      refine WP.region ?_
      refine WL.valw (R.mv (v := v2) rfl) ?_
      refine WL.valw (R.lenL (α := Str) (xs := r1) (H := H4) R6 rfl Tryd.underlying31) ?_
      refine WL.valw (R.eql rfl rfl) ?_
      refine WL.valw (R.mv (v := (boo ((r1.length : Int) == 0))) rfl) ?_
      refine WL.grp 4 [28, 29, 30] 31 (boo (((r1.length : Int) == 0) || (decide (64 ≤ (r1.length : Int))))) ?_ ?_
      · rcases boolE ((r1.length : Int) == 0) with hb14 | hb14
        · refine WL.gno rfl rfl hb14 ?_
          refine WL.gno rfl rfl hb14 ?_
          refine WL.gno rfl rfl hb14 ?_
          refine WL.valw (R.pickT rfl hb14 rfl) ?_
          exact WL.nil ⟨(orT hb14), (by repeat (first | refine agree_upd rfl ?_ | refine agree_upds' rfl ?_ | exact agree_refl)), rfl⟩
        · refine WL.gyes rfl rfl hb14 ?_
          refine WL.valw (R.mv (v := v2) rfl) ?_
          refine WL.gyes rfl rfl hb14 ?_
          refine WL.valw (R.lenL (α := Str) (xs := r1) (H := H4) R6 rfl Tryd.underlying31) ?_
          refine WL.gyes rfl rfl hb14 ?_
          refine WL.valw (R.geq rfl rfl) ?_
          refine WL.valw (R.pickF rfl hb14 rfl) ?_
          exact WL.nil ⟨(orF hb14), (by repeat (first | refine agree_upd rfl ?_ | refine agree_upds' rfl ?_ | exact agree_refl)), rfl⟩
      · intro us
        refine WL.nil ?_
        rcases condE h with ⟨hc16, h⟩ | ⟨hc16, h⟩
        · refine WP.condT rfl hc16 ?_
          refine WP.seq ?_
          refine WP.region ?_
          refine WL.valw (R.as (v := (.slice none 0 0)) rfl) ?_
          refine WL.valw (R.as (v := (boo false)) rfl) ?_
          refine WL.valw (R.as (v := (boo false)) rfl) ?_
          refine WL.nil ?_
          obtain rfl := Option.some.inj h
          refine WP.ret (Out.three rfl S rfl rfl rfl ?_)
          exact ⟨_, rfl, Sl.nil⟩
        · refine WP.condF rfl hc16 ?_
          refine WP.skip ?_
          refine WP.seq ?_
          refine WP.region ?_
          refine WL.valw (R.as (v := (.slice none 0 0)) rfl) ?_
          refine WL.nil ?_
          refine WP.seq ?_
          refine WP.seq ?_
          refine WP.region ?_
          refine WL.valw (R.as (v := (int 0)) rfl) ?_
          refine WL.nil ?_
          have S := S.addNil 45 2
          obtain ⟨r33, hr34, h⟩ := bindE h
          refine WP.cut (fun f w => match r33 with | .inl out_26 => ∃ (H25 : Hp) (v27 : Value), f 8 = v27 ∧ Sl (α := GETag) H25 v27 out_26 ∧ St w0 H0 w H25 [.row v27 45 2 out_26.length] | .inr _ => False) ?_ ?_
          · refine WP.block ?_
            refine WP.loopM (ref19_ETagList_L0 r1) (fun s f w => match s with | (out_19, i_23) => ∃ (H17 : Hp) (v20 : Value), f 7 = v2 ∧ f 8 = v20 ∧ f 9 = (int i_23) ∧ Sl (α := Str) H17 v2 r1 ∧ Sl (α := GETag) H17 v20 out_19 ∧ St w0 H0 w H17 [.row v20 45 2 out_19.length]) (([] : List GETag), 0) r33 hr34 ?_ ?_
            · exact ⟨H4, .slice none 0 0, rfl, rfl, rfl, R6, Sl.nil, S⟩
            · intro s f w hI y30 hy31 hy32
              obtain ⟨out_19, i_23⟩ := s
              obtain ⟨H17, v20, h18, h22, h24, R6, R21, S⟩ := hI
              refine WP.seq ?_
              refine WP.seq ?_
              refine WP.region ?_
              refine WL.valw (R.mv (v := (int i_23)) h24) ?_
              refine WL.valw (R.mv (v := v2) h18) ?_
              refine WL.valw (R.lenL (α := Str) (xs := r1) (H := H17) R6 rfl Tryd.underlying31) ?_
              refine WL.valw (R.lss rfl rfl) ?_
              refine WL.nil ?_
              rcases condE hy31 with ⟨hc35, hy31⟩ | ⟨hc35, hy31⟩
              · refine WP.condT rfl hc35 ?_
                refine WP.skip ?_
                refine WP.seq ?_
                refine WP.block ?_
                refine WP.seq ?_
                refine WP.region ?_
                refine WL.valw (R.mv (v := v2) h18) ?_
                refine WL.valw (R.mv (v := (int i_23)) h24) ?_
                obtain ⟨x36, hx36, hy31⟩ := bindE hy31
                refine W.idx (α := Str) R6 rfl rfl el31 hx36 ?_
                rintro a37 _ hA38 rfl
                refine WL.valw (R.loadH (v := (str x36)) S rfl hA38 lay9 rfl) ?_
                obtain ⟨r39, hr39, hy31⟩ := bindE hy31
                refine W.call S rfl (ref19_ParseETag_ok S.holds x36 hr39) ?_
                rintro v40 w41 H42 hle43 S rfl
                have R6 := Sl.mono R6 hle43
                have R21 := Sl.mono R21 hle43
                have hA38 := At.mono hA38 hle43 (by simp)
                refine WL.valw (R.mv (v := (.tuple ⟨[(agg [(boo r39.1.fWeak), (str r39.1.fTag)]), (boo r39.2)]⟩)) rfl) ?_
                refine WL.valw (R.ext rfl rfl) ?_
                refine WL.valw (R.ext rfl rfl) ?_
                refine W.alloc [(boo false), (str [])] S zer45 ?_
                intro b44 w45 S
                refine W.store (i := 0) [(boo r39.1.fWeak), (str r39.1.fTag)] S rfl rfl rfl lay45 rfl rfl (Nat.le_of_ble_eq_true rfl) rfl ?_
                intro w46 S
                refine WL.valw (R.as (v := (boo r39.2)) rfl) ?_
                refine WL.nil ?_
                refine WP.seq ?_
                refine WP.seq ?_
                refine WP.region ?_
                refine WL.valw (R.mv (v := (boo r39.2)) rfl) ?_
                refine WL.valw (R.not rfl) ?_
                refine WL.nil ?_
                rcases condE hy31 with ⟨hc47, hy31⟩ | ⟨hc47, hy31⟩
                · refine WP.condT rfl hc47 ?_
                  refine WP.seq ?_
                  refine WP.region ?_
                  refine WL.valw (R.as (v := (.slice none 0 0)) rfl) ?_
                  refine WL.valw (R.as (v := (boo false)) rfl) ?_
                  refine WL.valw (R.as (v := (boo false)) rfl) ?_
                  refine WL.nil ?_
                  obtain rfl := Option.some.inj hy31
                  obtain rfl := hy32
                  obtain rfl := Option.some.inj h
                  refine WP.ret (Out.three rfl S rfl rfl rfl ?_)
                  exact ⟨_, rfl, Sl.nil⟩
                · refine WP.condF rfl hc47 ?_
                  refine WP.skip ?_
                  refine WP.region ?_
                  refine WL.valw (R.mv (v := v20) h22) ?_
                  refine WL.valw (R.loadBN (i := 0) (vs := [(boo r39.1.fWeak), (str r39.1.fTag)]) S rfl rfl lay45 rfl rfl) ?_
                  refine W.bslice (α := GETag) [(agg [(boo r39.1.fWeak), (str r39.1.fTag)])] ([r39.1] : List GETag) S el47 rfl rfl rfl (by decide) (encS ⟨rfl, rfl⟩ enc0) ?_
                  intro u48 w49 H50 hle51 R52 S
                  have R6 := Sl.mono R6 hle51
                  have R21 := Sl.mono R21 hle51
                  have hA38 := At.mono hA38 hle51 (by simp)
                  obtain ⟨l53, hl53, hy31⟩ := bindE hy31
                  refine W.app (α := GETag) (i := 2) S el47 rfl rfl rfl R21 R52 hl53 ?_
                  intro v54 w55 H56 hle57 R58 S
                  have R6 := Sl.mono R6 hle57
                  have R21 := Sl.mono R21 hle57
                  have hA38 := At.mono hA38 hle57 (by simp)
                  have R52 := Sl.mono R52 hle57
                  refine WL.valw (R.as (v := v54) rfl) ?_
                  refine WL.nil ?_
                  refine WP.region ?_
                  refine WL.valw (R.mv (v := (int i_23)) h24) ?_
                  refine WL.valw (R.add rfl rfl) ?_
                  refine WL.valw (R.as (v := (int (wr (i_23 + 1)))) rfl) ?_
                  refine WL.nil ?_
                  obtain rfl := Option.some.inj hy31
                  exact ⟨rfl, ⟨H56, v54, h18, rfl, rfl, R6, R58, (S.drop _ (.cons _ (.cons _ (.cons_cons _ .slnil))))⟩⟩
              · refine WP.condF rfl hc35 ?_
                refine WP.exit ?_
                obtain rfl := Option.some.inj hy31
                obtain rfl := hy32
                exact ⟨H17, v20, h22, R21, S⟩
          · intro f w hM
            rcases r33 with out_26 | e
            · obtain ⟨H25, v27, h29, R28, S⟩ := hM
              refine WP.seq ?_
              refine WP.region ?_
              refine WL.valw (R.mv (v := v27) h29) ?_
              refine WL.valw (R.as (v := v27) rfl) ?_
              refine WL.valw (R.as (v := (boo false)) rfl) ?_
              refine WL.valw (R.as (v := (boo true)) rfl) ?_
              refine WL.nil ?_
              obtain rfl := Option.some.inj h
              refine WP.ret (Out.three rfl S rfl rfl rfl ?_)
              exact ⟨_, rfl, R28⟩
            · exact hM.elim
set_option maxHeartbeats 4000000 in
theorem keep_SameTags_ok {w0 : World} {H0 : Hp} (hw : Holds w0 H0) (p_a : (List GETag)) (p_b : (List GETag)) {vp_a : Value} {vp_b : Value} (Rp_a : Sl (α := GETag) H0 vp_a p_a) (Rp_b : Sl (α := GETag) H0 vp_b p_b) {r : Bool} (h : keep_SameTags p_a p_b = some r) :
    Con Tryd.prog 36 [vp_a, vp_b] w0 H0 (fun H' v => v = (boo r)) := by
  refine Con.mk (N := 26) Tryd.func36 rfl rfl (by kernel_rfl) rfl ?_
  have S := St.start hw
  refine WP.seq ?_
  refine WP.region ?_
  refine WL.valw (R.as (v := (boo false)) rfl) ?_
  refine WL.nil ?_
  refine WP.seq ?_
  refine WP.seq ?_
  refine WP.region ?_
  refine WL.valw (R.mv (v := vp_a) rfl) ?_
  refine WL.valw (R.lenL (α := GETag) (xs := p_a) (H := H0) Rp_a rfl Tryd.underlying47) ?_
  refine WL.valw (R.mv (v := vp_b) rfl) ?_
  refine WL.valw (R.lenL (α := GETag) (xs := p_b) (H := H0) Rp_b rfl Tryd.underlying47) ?_
  refine WL.valw (R.neq rfl rfl) ?_
  refine WL.nil ?_
  rcases condE h with ⟨hc1, h⟩ | ⟨hc1, h⟩
  · refine WP.condT rfl hc1 ?_
    refine WP.seq ?_
    refine WP.region ?_
    refine WL.valw (R.as (v := (boo false)) rfl) ?_
    refine WL.nil ?_
    obtain rfl := Option.some.inj h
    refine WP.ret (Out.one rfl S rfl ?_)
    exact rfl
  · refine WP.condF rfl hc1 ?_
    refine WP.skip ?_
    refine WP.seq ?_
    refine WP.seq ?_
    refine WP.region ?_
    refine WL.valw (R.as (v := (int 0)) rfl) ?_
    refine WL.nil ?_
    obtain ⟨r11, hr12, h⟩ := bindE h
    refine WP.cut (fun f w => match r11 with | .inl _ => ∃ (H7 : Hp), St w0 H0 w H7 [] | .inr _ => False) ?_ ?_
    · refine WP.block ?_
      refine WP.loopM (keep_SameTags_L0 p_a p_b) (fun s f w => match s with | i_5 => ∃ (H2 : Hp), f 0 = vp_a ∧ f 1 = vp_b ∧ f 5 = (int i_5) ∧ Sl (α := GETag) H2 vp_a p_a ∧ Sl (α := GETag) H2 vp_b p_b ∧ St w0 H0 w H2 []) 0 r11 hr12 ?_ ?_
      · exact ⟨H0, rfl, rfl, rfl, Rp_a, Rp_b, S⟩
      · intro i_5 f w hI y8 hy9 hy10
        obtain ⟨H2, h3, h4, h6, Rp_a, Rp_b, S⟩ := hI
        refine WP.seq ?_
        refine WP.seq ?_
        refine WP.region ?_
        refine WL.valw (R.mv (v := (int i_5)) h6) ?_
        refine WL.valw (R.mv (v := vp_a) h3) ?_
        refine WL.valw (R.lenL (α := GETag) (xs := p_a) (H := H2) Rp_a rfl Tryd.underlying47) ?_
        refine WL.valw (R.lss rfl rfl) ?_
        refine WL.nil ?_
        rcases condE hy9 with ⟨hc13, hy9⟩ | ⟨hc13, hy9⟩
        · refine WP.condT rfl hc13 ?_
          refine WP.skip ?_
          refine WP.seq ?_
          refine WP.block ?_
          refine WP.seq ?_
          refine WP.quiet S (by kernel_rfl) (by kernel_rfl) ?_
          refine WQ.val (fun _ _ => (R.mv (v := vp_a) h3)) ?_
          refine WQ.val (fun _ _ => (R.mv (v := (int i_5)) h6)) ?_
          obtain ⟨x17, hx17, hy9⟩ := bindE hy9
          refine WQ.idx (α := GETag) Rp_a rfl rfl el47 hx17 ?_
          rintro a18 _ hA19 rfl
          refine WQ.val (fun w hw => by obtain ⟨_, hq, S⟩ := hw; exact (R.loadHN (vs := [(boo x17.fWeak), (str x17.fTag)]) S rfl (At.mono hA19 hq (by simp)) lay45 rfl rfl)) ?_
          refine WQ.val (fun _ _ => (R.mv (v := vp_b) h4)) ?_
          refine WQ.val (fun _ _ => (R.mv (v := (int i_5)) h6)) ?_
          obtain ⟨x20, hx20, hy9⟩ := bindE hy9
          refine WQ.idx (α := GETag) Rp_b rfl rfl el47 hx20 ?_
          rintro a21 _ hA22 rfl
          refine WQ.val (fun w hw => by obtain ⟨_, hq, S⟩ := hw; exact (R.loadHN (vs := [(boo x20.fWeak), (str x20.fTag)]) S rfl (At.mono hA22 hq (by simp)) lay45 rfl rfl)) ?_
          refine WQ.val (fun _ _ => (R.neqA (!((x17.fWeak == x20.fWeak) && ((x17.fTag == x20.fTag) && true))) rfl rfl ps45 fk45 rfl rfl rfl)) ?_
          refine WQ.nil ?_
          intro w14 H15 hle16 S
          have Rp_a := Sl.mono Rp_a hle16
          have Rp_b := Sl.mono Rp_b hle16
          have hA19 := At.mono hA19 hle16 (by simp)
          have hA22 := At.mono hA22 hle16 (by simp)
          rcases condE hy9 with ⟨hc23, hy9⟩ | ⟨hc23, hy9⟩
          · refine WP.condT rfl hc23 ?_
            refine WP.seq ?_
            refine WP.region ?_
            refine WL.valw (R.as (v := (boo false)) rfl) ?_
            refine WL.nil ?_
            obtain rfl := Option.some.inj hy9
            obtain rfl := hy10
            obtain rfl := Option.some.inj h
            refine WP.ret (Out.one rfl S rfl ?_)
            exact rfl
          · refine WP.condF rfl hc23 ?_
            refine WP.skip ?_
            refine WP.region ?_
            refine WL.valw (R.mv (v := (int i_5)) h6) ?_
            refine WL.valw (R.add rfl rfl) ?_
            refine WL.valw (R.as (v := (int (wr (i_5 + 1)))) rfl) ?_
            refine WL.nil ?_
            obtain rfl := Option.some.inj hy9
            exact ⟨rfl, ⟨H15, h3, h4, rfl, Rp_a, Rp_b, S⟩⟩
        · refine WP.condF rfl hc13 ?_
          refine WP.exit ?_
          obtain rfl := Option.some.inj hy9
          obtain rfl := hy10
          exact ⟨H2, S⟩
    · intro f w hM
      rcases r11 with _ | e
      · obtain ⟨H7, S⟩ := hM
        refine WP.seq ?_
        refine WP.region ?_
        refine WL.valw (R.as (v := (boo true)) rfl) ?_
        refine WL.nil ?_
        obtain rfl := Option.some.inj h
        refine WP.ret (Out.one rfl S rfl ?_)
        exact rfl
      · exact hM.elim
set_option maxHeartbeats 4000000 in
theorem law21_EtagLists_ok {w0 : World} {H0 : Hp} (hw : Holds w0 H0) (p_ppend : (List GField)) (p_x1 : Str) {vp_ppend : Value} (Rp_ppend : Sl (α := GField) H0 vp_ppend p_ppend) {r : Bool} (h : law21_EtagLists p_ppend p_x1 = some r) :
    Con Tryd.prog 11 [vp_ppend, (str p_x1)] w0 H0 (fun H' v => v = (boo r)) := by
  refine Con.mk (N := 73) Tryd.func11 rfl rfl (by kernel_rfl) rfl ?_
  have S := St.start hw
  refine WP.seq ?_
  refine WP.region ?_
  refine WL.valw (R.as (v := (boo false)) rfl) ?_
  refine WL.nil ?_
  refine WP.seq ?_
  refine WP.seq ?_
  refine WP.region ?_
  refine WL.valw (R.mv (v := vp_ppend) rfl) ?_
  obtain ⟨r1, hr1, h⟩ := bindE h
  refine W.call S rfl (keep_Fields_ok S.holds p_ppend Rp_ppend hr1) ?_
  rintro v2 w3 H4 hle5 S rfl
  have Rp_ppend := Sl.mono Rp_ppend hle5
  refine WL.valw (R.not rfl) ?_
  refine WL.valw (R.mv (v := (boo (!r1))) rfl) ?_
  refine WL.grp 4 [19, 20, 21] 22 (boo ((!r1) || (decide (100 < (p_x1.length : Int))))) ?_ ?_
  · rcases boolE (!r1) with hb6 | hb6
    · refine WL.gno rfl rfl hb6 ?_
      refine WL.gno rfl rfl hb6 ?_
      refine WL.gno rfl rfl hb6 ?_
      refine WL.valw (R.pickT rfl hb6 rfl) ?_
      exact WL.nil ⟨(orT hb6), (by repeat (first | refine agree_upd rfl ?_ | refine agree_upds' rfl ?_ | exact agree_refl)), rfl⟩
    · refine WL.gyes rfl rfl hb6 ?_
      refine WL.valw (R.mv (v := (str p_x1)) rfl) ?_
      refine WL.gyes rfl rfl hb6 ?_
      refine WL.valw (R.lenS (a := p_x1) rfl Tryd.underlying9) ?_
      refine WL.gyes rfl rfl hb6 ?_
      refine WL.valw (R.gtr rfl rfl) ?_
      refine WL.valw (R.pickF rfl hb6 rfl) ?_
      exact WL.nil ⟨(orF hb6), (by repeat (first | refine agree_upd rfl ?_ | refine agree_upds' rfl ?_ | exact agree_refl)), rfl⟩
  · intro us
    refine WL.nil ?_
    rcases condE h with ⟨hc8, h⟩ | ⟨hc8, h⟩
    · refine WP.condT rfl hc8 ?_
      refine WP.seq ?_
      refine WP.region ?_
      refine WL.valw (R.as (v := (boo true)) rfl) ?_
      refine WL.nil ?_
      obtain rfl := Option.some.inj h
      refine WP.ret (Out.one rfl S rfl ?_)
      exact rfl
    · refine WP.condF rfl hc8 ?_
      refine WP.skip ?_
      refine WP.seq ?_
      refine WP.region ?_
      refine WL.valw (R.mv (v := vp_ppend) rfl) ?_
      obtain ⟨r9, hr9, h⟩ := bindE h
      refine W.call S rfl (etag_Of_ok S.holds p_ppend Rp_ppend hr9) ?_
      rintro v10 w11 H12 hle13 S rfl
      have Rp_ppend := Sl.mono Rp_ppend hle13
      refine WL.valw (R.mv (v := (.tuple ⟨[(agg [(boo r9.1.fWeak), (str r9.1.fTag)]), (boo r9.2)]⟩)) rfl) ?_
      refine WL.valw (R.ext rfl rfl) ?_
      refine WL.valw (R.ext rfl rfl) ?_
      refine W.alloc [(boo false), (str [])] S zer45 ?_
      intro b14 w15 S
      refine W.store (i := 0) [(boo r9.1.fWeak), (str r9.1.fTag)] S rfl rfl rfl lay45 rfl rfl (Nat.le_of_ble_eq_true rfl) rfl ?_
      intro w16 S
      refine WL.valw (R.as (v := (boo r9.2)) rfl) ?_
      refine WL.nil ?_
      refine WP.seq ?_
      refine WP.region ?_
      refine WL.valw (R.mv (v := vp_ppend) rfl) ?_
      obtain ⟨r17, hr17, h⟩ := bindE h
      refine W.call S rfl (ref19_ETagOf_ok S.holds p_ppend Rp_ppend hr17) ?_
      rintro v18 w19 H20 hle21 S rfl
      have Rp_ppend := Sl.mono Rp_ppend hle21
      refine WL.valw (R.mv (v := (.tuple ⟨[(agg [(boo r17.1.fWeak), (str r17.1.fTag)]), (boo r17.2)]⟩)) rfl) ?_
      refine WL.valw (R.ext rfl rfl) ?_
      refine WL.valw (R.ext rfl rfl) ?_
      refine W.alloc [(boo false), (str [])] S zer45 ?_
      intro b22 w23 S
      refine W.store (i := 0) [(boo r17.1.fWeak), (str r17.1.fTag)] S rfl rfl rfl lay45 rfl rfl (Nat.le_of_ble_eq_true rfl) rfl ?_
      intro w24 S
      refine WL.valw (R.as (v := (boo r17.2)) rfl) ?_
      refine WL.nil ?_
      refine WP.seq ?_
      refine WP.region ?_
      refine WL.valw (R.mv (v := vp_ppend) rfl) ?_
      refine WL.valw (R.mv (v := (str p_x1)) rfl) ?_
      obtain ⟨r25, hr25, h⟩ := bindE h
      refine W.call S rfl (etag_List_ok S.holds p_ppend p_x1 Rp_ppend hr25) ?_
      rintro v26 w27 H28 hle29 S ⟨u30, rfl, R31⟩
      have Rp_ppend := Sl.mono Rp_ppend hle29
      refine WL.valw (R.mv (v := (.tuple ⟨[u30, (boo r25.2.1), (boo r25.2.2)]⟩)) rfl) ?_
      refine WL.valw (R.ext rfl rfl) ?_
      refine WL.valw (R.ext rfl rfl) ?_
      refine WL.valw (R.ext rfl rfl) ?_
      refine WL.valw (R.as (v := u30) rfl) ?_
      refine WL.valw (R.as (v := (boo r25.2.1)) rfl) ?_
      refine WL.valw (R.as (v := (boo r25.2.2)) rfl) ?_
      refine WL.nil ?_
      refine WP.seq ?_
      refine WP.region ?_
      refine WL.valw (R.mv (v := vp_ppend) rfl) ?_
      refine WL.valw (R.mv (v := (str p_x1)) rfl) ?_
      obtain ⟨r32, hr32, h⟩ := bindE h
      refine W.call S rfl (ref19_ETagList_ok S.holds p_ppend p_x1 Rp_ppend hr32) ?_
      rintro v33 w34 H35 hle36 S ⟨u37, rfl, R38⟩
      have Rp_ppend := Sl.mono Rp_ppend hle36
      have R31 := Sl.mono R31 hle36
      refine WL.valw (R.mv (v := (.tuple ⟨[u37, (boo r32.2.1), (boo r32.2.2)]⟩)) rfl) ?_
      refine WL.valw (R.ext rfl rfl) ?_
      refine WL.valw (R.ext rfl rfl) ?_
      refine WL.valw (R.ext rfl rfl) ?_
      refine WL.valw (R.as (v := u37) rfl) ?_
      refine WL.valw (R.as (v := (boo r32.2.1)) rfl) ?_
      refine WL.valw (R.as (v := (boo r32.2.2)) rfl) ?_
      refine WL.nil ?_
      refine WP.seq ?_
      refine WP.region ?_
      refine WL.valw (R.loadBN (i := 1) (vs := [(boo r9.1.fWeak), (str r9.1.fTag)]) S rfl rfl lay45 rfl rfl) ?_
      refine WL.valw (R.loadBN (i := 0) (vs := [(boo r17.1.fWeak), (str r17.1.fTag)]) S rfl rfl lay45 rfl rfl) ?_
      refine WL.valw (R.eqlA ((r9.1.fWeak == r17.1.fWeak) && ((r9.1.fTag == r17.1.fTag) && true)) rfl rfl ps45 fk45 rfl rfl rfl) ?_
      refine WL.valw (R.mv (v := (boo ((r9.1.fWeak == r17.1.fWeak) && ((r9.1.fTag == r17.1.fTag) && true)))) rfl) ?_
      refine WL.grp 4 [51, 52, 53] 54 (boo (((r9.1.fWeak == r17.1.fWeak) && ((r9.1.fTag == r17.1.fTag) && true)) && (r9.2 == r17.2))) ?_ ?_
      · rcases boolE ((r9.1.fWeak == r17.1.fWeak) && ((r9.1.fTag == r17.1.fTag) && true)) with hb39 | hb39
        · refine WL.gyes rfl rfl hb39 ?_
          refine WL.valw (R.mv (v := (boo r9.2)) rfl) ?_
          refine WL.gyes rfl rfl hb39 ?_
          refine WL.valw (R.mv (v := (boo r17.2)) rfl) ?_
          refine WL.gyes rfl rfl hb39 ?_
          refine WL.valw (R.eqlB rfl rfl Tryd.underlying4) ?_
          refine WL.valw (R.pickT rfl hb39 rfl) ?_
          exact WL.nil ⟨(andT hb39), (by repeat (first | refine agree_upd rfl ?_ | refine agree_upds' rfl ?_ | exact agree_refl)), rfl⟩
        · refine WL.gno rfl rfl hb39 ?_
          refine WL.gno rfl rfl hb39 ?_
          refine WL.gno rfl rfl hb39 ?_
          refine WL.valw (R.pickF rfl hb39 rfl) ?_
          exact WL.nil ⟨(andF hb39), (by repeat (first | refine agree_upd rfl ?_ | refine agree_upds' rfl ?_ | exact agree_refl)), rfl⟩
      · intro us
        refine WL.valw (R.mv (v := (boo (((r9.1.fWeak == r17.1.fWeak) && ((r9.1.fTag == r17.1.fTag) && true)) && (r9.2 == r17.2)))) rfl) ?_
        obtain ⟨b48, hg42, h⟩ := bindE h
        refine WL.grpw 4 [56, 57, 58] 59 (boo b48) (fun w => ∃ H' : Hp, H35.le H' ∧ St w0 H0 w H' [.box b22 45 [(boo r17.1.fWeak), (str r17.1.fTag)], .box b14 45 [(boo r9.1.fWeak), (str r9.1.fTag)]]) ?_ ?_
        · rcases boolE (((r9.1.fWeak == r17.1.fWeak) && ((r9.1.fTag == r17.1.fTag) && true)) && (r9.2 == r17.2)) with hb41 | hb41
          · replace hg42 := condT hg42 hb41
            refine WL.gyes rfl rfl hb41 ?_
            refine WL.valw (R.mv (v := u30) rfl) ?_
            refine WL.gyes rfl rfl hb41 ?_
            refine WL.valw (R.mv (v := u37) rfl) ?_
            refine WL.gyes rfl rfl hb41 ?_
            obtain ⟨r43, hr43, hg42⟩ := bindE hg42
            refine W.call S rfl (keep_SameTags_ok S.holds r25.1 r32.1 R31 R38 hr43) ?_
            rintro v44 w45 H46 hle47 S rfl
            have Rp_ppend := Sl.mono Rp_ppend hle47
            have R31 := Sl.mono R31 hle47
            have R38 := Sl.mono R38 hle47
            refine WL.valw (R.pickT rfl hb41 rfl) ?_
            exact WL.nil ⟨(congrArg boo (Option.some.inj hg42)), (by repeat (first | refine agree_upd rfl ?_ | refine agree_upds' rfl ?_ | exact agree_refl)), ⟨H46, hle47, S⟩⟩
          · replace hg42 := condF hg42 hb41
            refine WL.gno rfl rfl hb41 ?_
            refine WL.gno rfl rfl hb41 ?_
            refine WL.gno rfl rfl hb41 ?_
            refine WL.valw (R.pickF rfl hb41 rfl) ?_
            exact WL.nil ⟨(congrArg boo (Option.some.inj hg42)), (by repeat (first | refine agree_upd rfl ?_ | refine agree_upds' rfl ?_ | exact agree_refl)), ⟨H35, (Hp.le.refl _), S⟩⟩
        · intro us w50 ⟨H49, hle51, S⟩
          have Rp_ppend := Sl.mono Rp_ppend hle51
          have R31 := Sl.mono R31 hle51
          have R38 := Sl.mono R38 hle51
          refine WL.valw (R.mv (v := (boo b48)) rfl) ?_
          refine WL.grp 4 [61, 62, 63] 64 (boo (b48 && (r25.2.1 == r32.2.1))) ?_ ?_
          · rcases boolE b48 with hb52 | hb52
            · refine WL.gyes rfl rfl hb52 ?_
              refine WL.valw (R.mv (v := (boo r25.2.1)) rfl) ?_
              refine WL.gyes rfl rfl hb52 ?_
              refine WL.valw (R.mv (v := (boo r32.2.1)) rfl) ?_
              refine WL.gyes rfl rfl hb52 ?_
              refine WL.valw (R.eqlB rfl rfl Tryd.underlying4) ?_
              refine WL.valw (R.pickT rfl hb52 rfl) ?_
              exact WL.nil ⟨(andT hb52), (by repeat (first | refine agree_upd rfl ?_ | refine agree_upds' rfl ?_ | exact agree_refl)), rfl⟩
            · refine WL.gno rfl rfl hb52 ?_
              refine WL.gno rfl rfl hb52 ?_
              refine WL.gno rfl rfl hb52 ?_
              refine WL.valw (R.pickF rfl hb52 rfl) ?_
              exact WL.nil ⟨(andF hb52), (by repeat (first | refine agree_upd rfl ?_ | refine agree_upds' rfl ?_ | exact agree_refl)), rfl⟩
          · intro us
            refine WL.valw (R.mv (v := (boo (b48 && (r25.2.1 == r32.2.1)))) rfl) ?_
            refine WL.grp 4 [66, 67, 68] 69 (boo ((b48 && (r25.2.1 == r32.2.1)) && (r25.2.2 == r32.2.2))) ?_ ?_
            · rcases boolE (b48 && (r25.2.1 == r32.2.1)) with hb54 | hb54
              · refine WL.gyes rfl rfl hb54 ?_
                refine WL.valw (R.mv (v := (boo r25.2.2)) rfl) ?_
                refine WL.gyes rfl rfl hb54 ?_
                refine WL.valw (R.mv (v := (boo r32.2.2)) rfl) ?_
                refine WL.gyes rfl rfl hb54 ?_
                refine WL.valw (R.eqlB rfl rfl Tryd.underlying4) ?_
                refine WL.valw (R.pickT rfl hb54 rfl) ?_
                exact WL.nil ⟨(andT hb54), (by repeat (first | refine agree_upd rfl ?_ | refine agree_upds' rfl ?_ | exact agree_refl)), rfl⟩
              · refine WL.gno rfl rfl hb54 ?_
                refine WL.gno rfl rfl hb54 ?_
                refine WL.gno rfl rfl hb54 ?_
                refine WL.valw (R.pickF rfl hb54 rfl) ?_
                exact WL.nil ⟨(andF hb54), (by repeat (first | refine agree_upd rfl ?_ | refine agree_upds' rfl ?_ | exact agree_refl)), rfl⟩
            · intro us
              refine WL.valw (R.mv (v := (boo ((b48 && (r25.2.1 == r32.2.1)) && (r25.2.2 == r32.2.2)))) rfl) ?_
              obtain ⟨b63, hg57, h⟩ := bindE h
              refine WL.grpw 2 [71] 72 (boo b63) (fun w => ∃ H' : Hp, H49.le H' ∧ St w0 H0 w H' [.box b22 45 [(boo r17.1.fWeak), (str r17.1.fTag)], .box b14 45 [(boo r9.1.fWeak), (str r9.1.fTag)]]) ?_ ?_
              · rcases boolE ((b48 && (r25.2.1 == r32.2.1)) && (r25.2.2 == r32.2.2)) with hb56 | hb56
                · replace hg57 := condT hg57 hb56
                  refine WL.gyes rfl rfl hb56 ?_
                  obtain ⟨r58, hr58, hg57⟩ := bindE hg57
                  refine W.call S rfl (law21_awake_ok S.holds  hr58) ?_
                  rintro v59 w60 H61 hle62 S rfl
                  have Rp_ppend := Sl.mono Rp_ppend hle62
                  have R31 := Sl.mono R31 hle62
                  have R38 := Sl.mono R38 hle62
                  refine WL.valw (R.pickT rfl hb56 rfl) ?_
                  exact WL.nil ⟨(congrArg boo (Option.some.inj hg57)), (by repeat (first | refine agree_upd rfl ?_ | refine agree_upds' rfl ?_ | exact agree_refl)), ⟨H61, hle62, S⟩⟩
                · replace hg57 := condF hg57 hb56
                  refine WL.gno rfl rfl hb56 ?_
                  refine WL.valw (R.pickF rfl hb56 rfl) ?_
                  exact WL.nil ⟨(congrArg boo (Option.some.inj hg57)), (by repeat (first | refine agree_upd rfl ?_ | refine agree_upds' rfl ?_ | exact agree_refl)), ⟨H49, (Hp.le.refl _), S⟩⟩
              · intro us w65 ⟨H64, hle66, S⟩
                have Rp_ppend := Sl.mono Rp_ppend hle66
                have R31 := Sl.mono R31 hle66
                have R38 := Sl.mono R38 hle66
                refine WL.valw (R.as (v := (boo b63)) rfl) ?_
                refine WL.nil ?_
                obtain rfl := Option.some.inj h
                refine WP.ret (Out.one rfl S rfl ?_)
                exact rfl
end Go.Proofs
