/- A part of the proof of laws of the seat: written by program over the translation. -/
import Derived.Test.YteaklcnfmkaepaaDoorGenD3
namespace Go.Proofs
open Go.Eng Go.Eng.Pure
set_option linter.unusedVariables false
set_option maxRecDepth 10000 in
set_option maxHeartbeats 4000000 in
theorem vary_Names_ok {w0 : World} {H0 : Hp} (hw : Holds w0 H0) (p_l : (List GField)) {vp_l : Value} (Rp_l : Sl (α := GField) H0 vp_l p_l) {r : ((List Str) × Bool)} (h : vary_Names p_l = some r) :
    Con Tryd.prog 19 [vp_l] w0 H0 (fun H' v => ∃ u1 : Value, v = (.tuple ⟨[u1, (boo r.2)]⟩) ∧ Sl (α := Str) H' u1 r.1) := by
  refine Con.mk (N := 36) Tryd.func19 rfl rfl (by kernel_rfl) rfl ?_
  have S := St.start hw
  have Rp_l_0 := Rp_l
  refine WP.seq ?_
  refine WP.region ?_
  refine WL.valw (R.as (v := (.slice none 0 0)) rfl) ?_
  refine WL.valw (R.as (v := (boo false)) rfl) ?_
  refine WL.nil ?_
  refine WP.seq ?_
  refine WP.region ?_
  refine WL.valw (R.mv (v := vp_l) rfl) ?_
  obtain ⟨r1, hr1, h⟩ := bindE h
  refine W.call S rfl (list_All_ok S.holds p_l [86, 97, 114, 121] Rp_l hr1) ?_
  rintro v2 w3 H4 hle5 S R6
  have Rp_l := Sl.mono Rp_l hle5
  refine WL.valw (R.as (v := v2) rfl) ?_
  refine WL.nil ?_
  refine WP.seq ?_
  refine WP.seq ?_
  refine WP.region ?_
  refine WL.valw (R.mv (v := v2) rfl) ?_
  refine WL.valw (R.lenL (α := Str) (xs := r1) (H := H4) R6 rfl Tryd.underlying22) ?_
  refine WL.valw (R.geq rfl rfl) ?_
  refine WL.nil ?_
  rcases condE h with ⟨hc7, h⟩ | ⟨hc7, h⟩
  · refine WP.condT rfl hc7 ?_
    refine WP.seq ?_
    refine WP.region ?_
    refine WL.valw (R.as (v := (.slice none 0 0)) rfl) ?_
    refine WL.valw (R.as (v := (boo false)) rfl) ?_
    refine WL.nil ?_
    obtain rfl := Option.some.inj h
    refine WP.ret (Out.two rfl S rfl rfl ?_)
    exact ⟨_, rfl, Sl.nil⟩
  · refine WP.condF rfl hc7 ?_
    refine WP.skip ?_
    refine WP.seq ?_
    refine WP.region ?_
    refine WL.valw (R.as (v := (.slice none 0 0)) rfl) ?_
    refine WL.nil ?_
    refine WP.seq ?_
    refine WP.seq ?_
    refine WP.region ?_
    refine WL.valw (R.mv (v := v2) rfl) ?_
    refine WL.valw (R.lenL (α := Str) (xs := r1) (H := H4) R6 rfl Tryd.underlying22) ?_
    refine WL.valw (R.mv (v := (int 0)) rfl) ?_
    refine WL.nil ?_
    have S := S.addNil 9 1
    obtain ⟨r25, hr26, h⟩ := bindE h
    refine WP.cut (fun f w => match r25 with | .inl out_18 => ∃ (H17 : Hp) (v19 : Value), f 5 = v19 ∧ Sl (α := Str) H17 v19 out_18 ∧ St w0 H0 w H17 [.row v19 9 1 out_18.length] | .inr _ => False) ?_ ?_
    · refine WP.block ?_
      refine WP.loopM (vary_Names_L0 r1) (fun s f w => match s with | (out_9, y_15) => ∃ (H8 : Hp) (v10 : Value), f 5 = v10 ∧ f 13 = v2 ∧ f 14 = (int (r1.length : Int)) ∧ f 15 = (int y_15) ∧ Sl (α := Str) H8 v10 out_9 ∧ Sl (α := Str) H8 v2 r1 ∧ St w0 H0 w H8 [.row v10 9 1 out_9.length]) (([] : List Str), 0) r25 hr26 ?_ ?_
      · exact ⟨H4, .slice none 0 0, rfl, rfl, rfl, rfl, Sl.nil, R6, S⟩
      · intro s f w hI y22 hy23 hy24
        obtain ⟨out_9, y_15⟩ := s
        obtain ⟨H8, v10, h12, h13, h14, h16, R11, R6, S⟩ := hI
        refine WP.seq ?_
        refine WP.region ?_
        refine WL.valw (R.lss h16 h14) ?_
        refine WL.nil ?_
        refine WP.seq ?_
        rcases condE hy23 with ⟨hc27, hy23⟩ | ⟨hc27, hy23⟩
        · refine WP.condT rfl hc27 ?_
          refine WP.skip ?_
          refine WP.seq ?_
          refine WP.block ?_
          refine WP.seq ?_
          refine WP.region ?_
          obtain ⟨x28, hx28, hy23⟩ := bindE hy23
          refine W.idx (α := Str) R6 h13 h16 el22 hx28 ?_
          rintro a29 _ hA30 rfl
          refine WL.valw (R.loadH (v := (str x28)) S rfl hA30 lay9 rfl) ?_
          refine WL.valw (R.as (v := (str x28)) rfl) ?_
          refine WL.nil ?_
          refine WP.seq ?_
          refine WP.seq ?_
          refine WP.region ?_
          refine WL.valw (R.mv (v := (str x28)) rfl) ?_
          obtain ⟨r31, hr31, hy23⟩ := bindE hy23
          refine W.call S rfl (ascii_Token_ok S.holds x28 hr31) ?_
          rintro v32 w33 H34 hle35 S rfl
          have R11 := Sl.mono R11 hle35
          have R6 := Sl.mono R6 hle35
          have hA30 := At.mono hA30 hle35 (by simp)
          refine WL.valw (R.not rfl) ?_
          refine WL.valw (R.mv (v := (boo (!r31))) rfl) ?_
          refine WL.grp 3 [23, 24] 25 (boo ((!r31) || (x28 == [42]))) ?_ ?_
          · rcases boolE (!r31) with hb36 | hb36
            · refine WL.gno rfl rfl hb36 ?_
              refine WL.gno rfl rfl hb36 ?_
              refine WL.valw (R.pickT rfl hb36 rfl) ?_
              exact WL.nil ⟨(orT hb36), (by repeat (first | refine agree_upd rfl ?_ | refine agree_upds' rfl ?_ | exact agree_refl)), rfl⟩
            · refine WL.gyes rfl rfl hb36 ?_
              refine WL.valw (R.mv (v := (str x28)) rfl) ?_
              refine WL.gyes rfl rfl hb36 ?_
              refine WL.valw (R.eqlS (a := x28) (b := [42]) rfl rfl) ?_
              refine WL.valw (R.pickF rfl hb36 rfl) ?_
              exact WL.nil ⟨(orF hb36), (by repeat (first | refine agree_upd rfl ?_ | refine agree_upds' rfl ?_ | exact agree_refl)), rfl⟩
          · intro us
            refine WL.nil ?_
            rcases condE hy23 with ⟨hc38, hy23⟩ | ⟨hc38, hy23⟩
            · refine WP.condT rfl hc38 ?_
              refine WP.seq ?_
              refine WP.region ?_
              refine WL.valw (R.as (v := (.slice none 0 0)) rfl) ?_
              refine WL.valw (R.as (v := (boo false)) rfl) ?_
              refine WL.nil ?_
              obtain rfl := Option.some.inj hy23
              obtain rfl := hy24
              obtain rfl := Option.some.inj h
              refine WP.ret (Out.two rfl S rfl rfl ?_)
              exact ⟨_, rfl, Sl.nil⟩
            · refine WP.condF rfl hc38 ?_
              refine WP.skip ?_
              refine WP.region ?_
              refine WL.valw (R.mv (v := v10) h12) ?_
              refine WL.valw (R.mv (v := (str x28)) rfl) ?_
              obtain ⟨r39, hr39, hy23⟩ := bindE hy23
              refine W.call S rfl (ascii_Lower_ok S.holds x28 hr39) ?_
              rintro v40 w41 H42 hle43 S rfl
              have R11 := Sl.mono R11 hle43
              have R6 := Sl.mono R6 hle43
              have hA30 := At.mono hA30 hle43 (by simp)
              refine W.bslice (α := Str) [(str r39)] ([r39] : List Str) S el22 rfl rfl rfl (by decide) (Go.Eng.encS ⟨rfl, rfl⟩ enc0) ?_
              intro u44 w45 H46 hle47 R48 S
              have R11 := Sl.mono R11 hle47
              have R6 := Sl.mono R6 hle47
              have hA30 := At.mono hA30 hle47 (by simp)
              obtain ⟨l49, hl49, hy23⟩ := bindE hy23
              refine W.app (α := Str) (i := 1) S el22 rfl rfl rfl R11 R48 hl49 ?_
              intro v50 w51 H52 hle53 R54 S
              have R11 := Sl.mono R11 hle53
              have R6 := Sl.mono R6 hle53
              have hA30 := At.mono hA30 hle53 (by simp)
              have R48 := Sl.mono R48 hle53
              refine WL.valw (R.as (v := v50) rfl) ?_
              refine WL.nil ?_
              refine WP.region ?_
              refine WL.valw (R.add h16 rfl) ?_
              refine WL.valw (R.mv (v := (int (wr (y_15 + 1)))) rfl) ?_
              refine WL.nil ?_
              obtain rfl := Option.some.inj hy23
              exact ⟨rfl, ⟨H52, v50, rfl, h13, h14, rfl, R54, R6, (S.drop _ (.cons _ (.cons_cons _ .slnil)))⟩⟩
        · refine WP.condF rfl hc27 ?_
          refine WP.exit ?_
          obtain rfl := Option.some.inj hy23
          obtain rfl := hy24
          exact ⟨H8, v10, h12, R11, S⟩
    · intro f w hM
      rcases r25 with out_18 | e
      · obtain ⟨H17, v19, h21, R20, S⟩ := hM
        refine WP.seq ?_
        refine WP.region ?_
        refine WL.valw (R.mv (v := v19) h21) ?_
        obtain ⟨l55, hl55, h⟩ := bindE h
        refine W.sortRow (i := 0) slices_Sort_string_con hw S rfl rfl R20 hl55 ?_
        intro w57 H58 hle59 R60 S
        refine WL.nil ?_
        refine WP.seq ?_
        refine WP.region ?_
        refine WL.valw (R.mv (v := v19) h21) ?_
        obtain ⟨l61, hl61, h⟩ := bindE h
        refine W.compactRow (i := 0) slices_Compact_string_con hw S rfl rfl R60 hl61 ?_
        intro v62 w63 H64 hle65 R66 S
        refine WL.valw (R.as (v := v62) rfl) ?_
        refine WL.valw (R.as (v := (boo true)) rfl) ?_
        refine WL.nil ?_
        obtain rfl := Option.some.inj h
        refine WP.ret (Out.two rfl S rfl rfl ?_)
        exact ⟨_, rfl, R66⟩
      · exact hM.elim
set_option maxRecDepth 10000 in
set_option maxHeartbeats 4000000 in
theorem ref01_TokenByte_ok {w0 : World} {H0 : Hp} (hw : Holds w0 H0) (p_c : UInt8) {r : Bool} (h : ref01_TokenByte p_c = some r) :
    Con Tryd.prog 49 [(byt p_c)] w0 H0 (fun H' v => v = (boo r)) := by
  refine Con.mk (N := 34) Tryd.func49 rfl rfl (by kernel_rfl) rfl ?_
  have S := St.start hw
  refine WP.seq ?_
  refine WP.region ?_
  refine WL.valw (R.as (v := (boo false)) rfl) ?_
  refine WL.nil ?_
  refine WP.seq ?_
  refine WP.seq ?_
  refine WP.region ?_
  refine WL.valw (R.mv (v := (byt p_c)) rfl) ?_
  refine WL.valw (R.geq8 (a := p_c) (b := 97) rfl rfl) ?_
  refine WL.valw (R.mv (v := (boo (decide (97 ≤ p_c)))) rfl) ?_
  refine WL.grp 3 [7, 8] 9 (boo ((decide (97 ≤ p_c)) && (decide (p_c ≤ 122)))) ?_ ?_
  · rcases boolE (decide (97 ≤ p_c)) with hb1 | hb1
    · refine WL.gyes rfl rfl hb1 ?_
      refine WL.valw (R.mv (v := (byt p_c)) rfl) ?_
      refine WL.gyes rfl rfl hb1 ?_
      refine WL.valw (R.leq8 (a := p_c) (b := 122) rfl rfl) ?_
      refine WL.valw (R.pickT rfl hb1 rfl) ?_
      exact WL.nil ⟨(andT hb1), (by repeat (first | refine agree_upd rfl ?_ | refine agree_upds' rfl ?_ | exact agree_refl)), rfl⟩
    · refine WL.gno rfl rfl hb1 ?_
      refine WL.gno rfl rfl hb1 ?_
      refine WL.valw (R.pickF rfl hb1 rfl) ?_
      exact WL.nil ⟨(andF hb1), (by repeat (first | refine agree_upd rfl ?_ | refine agree_upds' rfl ?_ | exact agree_refl)), rfl⟩
  · intro us
    refine WL.valw (R.mv (v := (boo ((decide (97 ≤ p_c)) && (decide (p_c ≤ 122))))) rfl) ?_
    refine WL.grp 7 [11, 12, 13, 14, 15, 16] 17 (boo (((decide (97 ≤ p_c)) && (decide (p_c ≤ 122))) || ((decide (65 ≤ p_c)) && (decide (p_c ≤ 90))))) ?_ ?_
    · rcases boolE ((decide (97 ≤ p_c)) && (decide (p_c ≤ 122))) with hb3 | hb3
      · refine WL.gno rfl rfl hb3 ?_
        refine WL.gno rfl rfl hb3 ?_
        refine WL.gno rfl rfl hb3 ?_
        refine WL.gund rfl rfl ?_
        refine WL.gund rfl rfl ?_
        refine WL.gno rfl rfl hb3 ?_
        refine WL.valw (R.pickT rfl hb3 rfl) ?_
        exact WL.nil ⟨(orT hb3), (by repeat (first | refine agree_upd rfl ?_ | refine agree_upds' rfl ?_ | exact agree_refl)), rfl⟩
      · refine WL.gyes rfl rfl hb3 ?_
        refine WL.valw (R.mv (v := (byt p_c)) rfl) ?_
        refine WL.gyes rfl rfl hb3 ?_
        refine WL.valw (R.geq8 (a := p_c) (b := 65) rfl rfl) ?_
        refine WL.gyes rfl rfl hb3 ?_
        refine WL.valw (R.mv (v := (boo (decide (65 ≤ p_c)))) rfl) ?_
        refine WL.grp 3 [14, 15] 16 (boo ((decide (65 ≤ p_c)) && (decide (p_c ≤ 90)))) ?_ ?_
        · rcases boolE (decide (65 ≤ p_c)) with hb5 | hb5
          · refine WL.gyes rfl rfl hb5 ?_
            refine WL.valw (R.mv (v := (byt p_c)) rfl) ?_
            refine WL.gyes rfl rfl hb5 ?_
            refine WL.valw (R.leq8 (a := p_c) (b := 90) rfl rfl) ?_
            refine WL.gyes rfl rfl hb3 ?_
            refine WL.valw (R.pickT rfl hb5 rfl) ?_
            exact WL.nil ⟨(andT hb5), (by repeat (first | refine agree_upd rfl ?_ | refine agree_upds' rfl ?_ | exact agree_refl)), rfl⟩
          · refine WL.gno rfl rfl hb5 ?_
            refine WL.gno rfl rfl hb5 ?_
            refine WL.gyes rfl rfl hb3 ?_
            refine WL.valw (R.pickF rfl hb5 rfl) ?_
            exact WL.nil ⟨(andF hb5), (by repeat (first | refine agree_upd rfl ?_ | refine agree_upds' rfl ?_ | exact agree_refl)), rfl⟩
        · intro us
          refine WL.valw (R.pickF rfl hb3 rfl) ?_
          exact WL.nil ⟨(orF hb3), (by repeat (first | refine agree_upd rfl ?_ | refine agree_upds' rfl ?_ | exact agree_refl)), rfl⟩
    · intro us
      refine WL.valw (R.mv (v := (boo (((decide (97 ≤ p_c)) && (decide (p_c ≤ 122))) || ((decide (65 ≤ p_c)) && (decide (p_c ≤ 90)))))) rfl) ?_
      refine WL.grp 7 [19, 20, 21, 22, 23, 24] 25 (boo ((((decide (97 ≤ p_c)) && (decide (p_c ≤ 122))) || ((decide (65 ≤ p_c)) && (decide (p_c ≤ 90)))) || ((decide (48 ≤ p_c)) && (decide (p_c ≤ 57))))) ?_ ?_
      · rcases boolE (((decide (97 ≤ p_c)) && (decide (p_c ≤ 122))) || ((decide (65 ≤ p_c)) && (decide (p_c ≤ 90)))) with hb7 | hb7
        · refine WL.gno rfl rfl hb7 ?_
          refine WL.gno rfl rfl hb7 ?_
          refine WL.gno rfl rfl hb7 ?_
          refine WL.gund rfl rfl ?_
          refine WL.gund rfl rfl ?_
          refine WL.gno rfl rfl hb7 ?_
          refine WL.valw (R.pickT rfl hb7 rfl) ?_
          exact WL.nil ⟨(orT hb7), (by repeat (first | refine agree_upd rfl ?_ | refine agree_upds' rfl ?_ | exact agree_refl)), rfl⟩
        · refine WL.gyes rfl rfl hb7 ?_
          refine WL.valw (R.mv (v := (byt p_c)) rfl) ?_
          refine WL.gyes rfl rfl hb7 ?_
          refine WL.valw (R.geq8 (a := p_c) (b := 48) rfl rfl) ?_
          refine WL.gyes rfl rfl hb7 ?_
          refine WL.valw (R.mv (v := (boo (decide (48 ≤ p_c)))) rfl) ?_
          refine WL.grp 3 [22, 23] 24 (boo ((decide (48 ≤ p_c)) && (decide (p_c ≤ 57)))) ?_ ?_
          · rcases boolE (decide (48 ≤ p_c)) with hb9 | hb9
            · refine WL.gyes rfl rfl hb9 ?_
              refine WL.valw (R.mv (v := (byt p_c)) rfl) ?_
              refine WL.gyes rfl rfl hb9 ?_
              refine WL.valw (R.leq8 (a := p_c) (b := 57) rfl rfl) ?_
              refine WL.gyes rfl rfl hb7 ?_
              refine WL.valw (R.pickT rfl hb9 rfl) ?_
              exact WL.nil ⟨(andT hb9), (by repeat (first | refine agree_upd rfl ?_ | refine agree_upds' rfl ?_ | exact agree_refl)), rfl⟩
            · refine WL.gno rfl rfl hb9 ?_
              refine WL.gno rfl rfl hb9 ?_
              refine WL.gyes rfl rfl hb7 ?_
              refine WL.valw (R.pickF rfl hb9 rfl) ?_
              exact WL.nil ⟨(andF hb9), (by repeat (first | refine agree_upd rfl ?_ | refine agree_upds' rfl ?_ | exact agree_refl)), rfl⟩
          · intro us
            refine WL.valw (R.pickF rfl hb7 rfl) ?_
            exact WL.nil ⟨(orF hb7), (by repeat (first | refine agree_upd rfl ?_ | refine agree_upds' rfl ?_ | exact agree_refl)), rfl⟩
      · intro us
        refine WL.nil ?_
        rcases condE h with ⟨hc11, h⟩ | ⟨hc11, h⟩
        · refine WP.condT rfl hc11 ?_
          refine WP.seq ?_
          refine WP.region ?_
          refine WL.valw (R.as (v := (boo true)) rfl) ?_
          refine WL.nil ?_
          obtain rfl := Option.some.inj h
          refine WP.ret (Out.one rfl S rfl ?_)
          exact rfl
        · refine WP.condF rfl hc11 ?_
          refine WP.skip ?_
          refine WP.seq ?_
          refine WP.seq ?_
          refine WP.region ?_
          refine WL.valw (R.as (v := (int 0)) rfl) ?_
          refine WL.nil ?_
          obtain ⟨r20, hr21, h⟩ := bindE h
          refine WP.cut (fun f w => match r20 with | .inl _ => ∃ (H16 : Hp), St w0 H0 w H16 [] | .inr _ => False) ?_ ?_
          · refine WP.block ?_
            refine WP.loopM (ref01_TokenByte_L0 p_c) (fun s f w => match s with | i_14 => ∃ (H12 : Hp), f 0 = (byt p_c) ∧ f 3 = (int i_14) ∧ St w0 H0 w H12 []) 0 r20 hr21 ?_ ?_
            · exact ⟨H0, rfl, rfl, S⟩
            · intro i_14 f w hI y17 hy18 hy19
              obtain ⟨H12, h13, h15, S⟩ := hI
              refine WP.seq ?_
              refine WP.seq ?_
              refine WP.region ?_
              refine WL.valw (R.mv (v := (int i_14)) h15) ?_
              refine WL.valw (R.lss rfl rfl) ?_
              refine WL.nil ?_
              rcases condE hy18 with ⟨hc22, hy18⟩ | ⟨hc22, hy18⟩
              · refine WP.condT rfl hc22 ?_
                refine WP.skip ?_
                refine WP.seq ?_
                refine WP.block ?_
                refine WP.seq ?_
                refine WP.region ?_
                refine WL.valw (R.mv (v := (int i_14)) h15) ?_
                obtain ⟨c23, hc23, hy18⟩ := bindE hy18
                refine WL.valw (R.idxS rfl rfl Tryd.underlying9 hc23) ?_
                refine WL.valw (R.mv (v := (byt p_c)) h13) ?_
                refine WL.valw (R.eql8 (a := c23) (b := p_c) rfl rfl) ?_
                refine WL.nil ?_
                rcases condE hy18 with ⟨hc24, hy18⟩ | ⟨hc24, hy18⟩
                · refine WP.condT rfl hc24 ?_
                  refine WP.seq ?_
                  refine WP.region ?_
                  refine WL.valw (R.as (v := (boo true)) rfl) ?_
                  refine WL.nil ?_
                  obtain rfl := Option.some.inj hy18
                  obtain rfl := hy19
                  obtain rfl := Option.some.inj h
                  refine WP.ret (Out.one rfl S rfl ?_)
                  exact rfl
                · refine WP.condF rfl hc24 ?_
                  refine WP.skip ?_
                  refine WP.region ?_
                  refine WL.valw (R.mv (v := (int i_14)) h15) ?_
                  refine WL.valw (R.add rfl rfl) ?_
                  refine WL.valw (R.as (v := (int (wr (i_14 + 1)))) rfl) ?_
                  refine WL.nil ?_
                  obtain rfl := Option.some.inj hy18
                  exact ⟨rfl, ⟨H12, h13, rfl, S⟩⟩
              · refine WP.condF rfl hc22 ?_
                refine WP.exit ?_
                obtain rfl := Option.some.inj hy18
                obtain rfl := hy19
                exact ⟨H12, S⟩
          · intro f w hM
            rcases r20 with _ | e
            · obtain ⟨H16, S⟩ := hM
              refine WP.seq ?_
              refine WP.region ?_
              refine WL.valw (R.as (v := (boo false)) rfl) ?_
              refine WL.nil ?_
              obtain rfl := Option.some.inj h
              refine WP.ret (Out.one rfl S rfl ?_)
              exact rfl
            · exact hM.elim
set_option maxRecDepth 10000 in
set_option maxHeartbeats 4000000 in
theorem ref01_Token_ok {w0 : World} {H0 : Hp} (hw : Holds w0 H0) (p_s : Str) {r : Bool} (h : ref01_Token p_s = some r) :
    Con Tryd.prog 22 [(str p_s)] w0 H0 (fun H' v => v = (boo r)) := by
  refine Con.mk (N := 17) Tryd.func22 rfl rfl (by kernel_rfl) rfl ?_
  have S := St.start hw
  refine WP.seq ?_
  refine WP.region ?_
  refine WL.valw (R.as (v := (boo false)) rfl) ?_
  refine WL.nil ?_
  refine WP.seq ?_
  refine WP.seq ?_
  refine WP.region ?_
  refine WL.valw (R.as (v := (int 0)) rfl) ?_
  refine WL.nil ?_
  obtain ⟨r10, hr11, h⟩ := bindE h
  refine WP.cut (fun f w => match r10 with | .inl _ => ∃ (H5 : Hp), f 0 = (str p_s) ∧ St w0 H0 w H5 [] | .inr _ => False) ?_ ?_
  · refine WP.block ?_
    refine WP.loopM (ref01_Token_L0 p_s) (fun s f w => match s with | i_3 => ∃ (H1 : Hp), f 0 = (str p_s) ∧ f 3 = (int i_3) ∧ St w0 H0 w H1 []) 0 r10 hr11 ?_ ?_
    · exact ⟨H0, rfl, rfl, S⟩
    · intro i_3 f w hI y7 hy8 hy9
      obtain ⟨H1, h2, h4, S⟩ := hI
      refine WP.seq ?_
      refine WP.seq ?_
      refine WP.region ?_
      refine WL.valw (R.mv (v := (int i_3)) h4) ?_
      refine WL.valw (R.mv (v := (str p_s)) h2) ?_
      refine WL.valw (R.lenS (a := p_s) rfl Tryd.underlying9) ?_
      refine WL.valw (R.lss rfl rfl) ?_
      refine WL.nil ?_
      rcases condE hy8 with ⟨hc12, hy8⟩ | ⟨hc12, hy8⟩
      · refine WP.condT rfl hc12 ?_
        refine WP.skip ?_
        refine WP.seq ?_
        refine WP.block ?_
        refine WP.seq ?_
        refine WP.region ?_
        refine WL.valw (R.mv (v := (str p_s)) h2) ?_
        refine WL.valw (R.mv (v := (int i_3)) h4) ?_
        obtain ⟨c13, hc13, hy8⟩ := bindE hy8
        refine WL.valw (R.idxS rfl rfl Tryd.underlying9 hc13) ?_
        obtain ⟨r14, hr14, hy8⟩ := bindE hy8
        refine W.call S rfl (ref01_TokenByte_ok S.holds c13 hr14) ?_
        rintro v15 w16 H17 hle18 S rfl
        refine WL.valw (R.not rfl) ?_
        refine WL.nil ?_
        rcases condE hy8 with ⟨hc19, hy8⟩ | ⟨hc19, hy8⟩
        · refine WP.condT rfl hc19 ?_
          refine WP.seq ?_
          refine WP.region ?_
          refine WL.valw (R.as (v := (boo false)) rfl) ?_
          refine WL.nil ?_
          obtain rfl := Option.some.inj hy8
          obtain rfl := hy9
          obtain rfl := Option.some.inj h
          refine WP.ret (Out.one rfl S rfl ?_)
          exact rfl
        · refine WP.condF rfl hc19 ?_
          refine WP.skip ?_
          refine WP.region ?_
          refine WL.valw (R.mv (v := (int i_3)) h4) ?_
          refine WL.valw (R.add rfl rfl) ?_
          refine WL.valw (R.as (v := (int (wr (i_3 + 1)))) rfl) ?_
          refine WL.nil ?_
          obtain rfl := Option.some.inj hy8
          exact ⟨rfl, ⟨H17, h2, rfl, S⟩⟩
      · refine WP.condF rfl hc12 ?_
        refine WP.exit ?_
        obtain rfl := Option.some.inj hy8
        obtain rfl := hy9
        exact ⟨H1, h2, S⟩
  · intro f w hM
    rcases r10 with _ | e
    · obtain ⟨H5, h6, S⟩ := hM
      refine WP.seq ?_
      refine WP.region ?_
      refine WL.valw (R.mv (v := (str p_s)) h6) ?_
      refine WL.valw (R.neqS (a := p_s) (b := []) rfl rfl) ?_
      refine WL.valw (R.as (v := (boo (p_s != []))) rfl) ?_
      refine WL.nil ?_
      obtain rfl := Option.some.inj h
      refine WP.ret (Out.one rfl S rfl ?_)
      exact rfl
    · exact hM.elim
set_option maxRecDepth 10000 in
set_option maxHeartbeats 4000000 in
theorem ref19_VaryNames_ok {w0 : World} {H0 : Hp} (hw : Holds w0 H0) (p_ppend : (List GField)) {vp_ppend : Value} (Rp_ppend : Sl (α := GField) H0 vp_ppend p_ppend) {r : ((List Str) × Bool)} (h : ref19_VaryNames p_ppend = some r) :
    Con Tryd.prog 20 [vp_ppend] w0 H0 (fun H' v => ∃ u1 : Value, v = (.tuple ⟨[u1, (boo r.2)]⟩) ∧ Sl (α := Str) H' u1 r.1) := by
  refine Con.mk (N := 78) Tryd.func20 rfl rfl (by kernel_rfl) rfl ?_
  have S := St.start hw
  refine WP.seq ?_
  refine WP.region ?_
  refine WL.valw (R.as (v := (.slice none 0 0)) rfl) ?_
  refine WL.valw (R.as (v := (boo false)) rfl) ?_
  refine WL.nil ?_
  refine WP.seq ?_
  refine WP.region ?_
  refine WL.valw (R.mv (v := vp_ppend) rfl) ?_
  obtain ⟨r1, hr1, h⟩ := bindE h
  refine W.call S rfl (ref01_All_ok S.holds p_ppend [86, 97, 114, 121] Rp_ppend hr1) ?_
  rintro v2 w3 H4 hle5 S R6
  have Rp_ppend := Sl.mono Rp_ppend hle5
  refine WL.valw (R.as (v := v2) rfl) ?_
  refine WL.nil ?_
  refine WP.seq ?_
  refine WP.seq ?_
  refine WP.region ?_
  refine WL.valw (R.mv (v := v2) rfl) ?_
  refine WL.valw (R.lenL (α := Str) (xs := r1) (H := H4) R6 rfl Tryd.underlying22) ?_
  refine WL.valw (R.geq rfl rfl) ?_
  refine WL.nil ?_
  rcases condE h with ⟨hc7, h⟩ | ⟨hc7, h⟩
  · refine WP.condT rfl hc7 ?_
    refine WP.seq ?_
    refine WP.region ?_
    refine WL.valw (R.as (v := (.slice none 0 0)) rfl) ?_
    refine WL.valw (R.as (v := (boo false)) rfl) ?_
    refine WL.nil ?_
    obtain rfl := Option.some.inj h
    refine WP.ret (Out.two rfl S rfl rfl ?_)
    exact ⟨_, rfl, Sl.nil⟩
  · refine WP.condF rfl hc7 ?_
    refine WP.skip ?_
    refine WP.seq ?_
    refine WP.region ?_
    refine WL.valw (R.as (v := (.slice none 0 0)) rfl) ?_
    refine WL.nil ?_
    refine WP.seq ?_
    refine WP.seq ?_
    refine WP.region ?_
    refine WL.valw (R.as (v := (int 0)) rfl) ?_
    refine WL.nil ?_
    obtain ⟨r24, hr25, h⟩ := bindE h
    refine WP.cut (fun f w => match r24 with | .inl y_17 => ∃ (H16 : Hp) (v18 : Value), f 5 = v18 ∧ Sl (α := Str) H16 v18 y_17 ∧ St w0 H0 w H16 [] | .inr _ => False) ?_ ?_
    · refine WP.block ?_
      refine WP.loopM (ref19_VaryNames_L1 r1) (fun s f w => match s with | (y_10, y_14) => ∃ (H8 : Hp) (v11 : Value), f 4 = v2 ∧ f 5 = v11 ∧ f 6 = (int y_14) ∧ Sl (α := Str) H8 v2 r1 ∧ Sl (α := Str) H8 v11 y_10 ∧ St w0 H0 w H8 []) (([] : List Str), 0) r24 hr25 ?_ ?_
      · exact ⟨H4, .slice none 0 0, rfl, rfl, rfl, R6, Sl.nil, S⟩
      · intro s f w hI y21 hy22 hy23
        obtain ⟨y_10, y_14⟩ := s
        obtain ⟨H8, v11, h9, h13, h15, R6, R12, S⟩ := hI
        refine WP.seq ?_
        refine WP.seq ?_
        refine WP.region ?_
        refine WL.valw (R.mv (v := (int y_14)) h15) ?_
        refine WL.valw (R.mv (v := v2) h9) ?_
        refine WL.valw (R.lenL (α := Str) (xs := r1) (H := H8) R6 rfl Tryd.underlying22) ?_
        refine WL.valw (R.lss rfl rfl) ?_
        refine WL.nil ?_
        rcases condE hy22 with ⟨hc26, hy22⟩ | ⟨hc26, hy22⟩
        · refine WP.condT rfl hc26 ?_
          refine WP.skip ?_
          refine WP.seq ?_
          refine WP.block ?_
          refine WP.seq ?_
          refine WP.seq ?_
          refine WP.region ?_
          refine WL.valw (R.mv (v := v2) h9) ?_
          refine WL.valw (R.mv (v := (int y_14)) h15) ?_
          obtain ⟨x27, hx27, hy22⟩ := bindE hy22
          refine W.idx (α := Str) R6 rfl rfl el22 hx27 ?_
          rintro a28 _ hA29 rfl
          refine WL.valw (R.loadH (v := (str x27)) S rfl hA29 lay9 rfl) ?_
          obtain ⟨r30, hr30, hy22⟩ := bindE hy22
          refine W.call S rfl (ref01_Token_ok S.holds x27 hr30) ?_
          rintro v31 w32 H33 hle34 S rfl
          have R6 := Sl.mono R6 hle34
          have R12 := Sl.mono R12 hle34
          have hA29 := At.mono hA29 hle34 (by simp)
          refine WL.valw (R.not rfl) ?_
          refine WL.valw (R.mv (v := (boo (!r30))) rfl) ?_
          obtain ⟨b40, hg36, hy22⟩ := bindE hy22
          refine WL.grp 6 [28, 29, 30, 31, 32] 33 (boo b40) ?_ ?_
          · rcases boolE (!r30) with hb35 | hb35
            · replace hg36 := condT hg36 hb35
              refine WL.gno rfl rfl hb35 ?_
              refine WL.gno rfl rfl hb35 ?_
              refine WL.gno rfl rfl hb35 ?_
              refine WL.gno rfl rfl hb35 ?_
              refine WL.gno rfl rfl hb35 ?_
              refine WL.valw (R.pickT rfl hb35 rfl) ?_
              exact WL.nil ⟨(congrArg boo (Option.some.inj hg36)), (by repeat (first | refine agree_upd rfl ?_ | refine agree_upds' rfl ?_ | exact agree_refl)), rfl⟩
            · replace hg36 := condF hg36 hb35
              refine WL.gyes rfl rfl hb35 ?_
              refine WL.valw (R.mv (v := v2) h9) ?_
              refine WL.gyes rfl rfl hb35 ?_
              refine WL.valw (R.mv (v := (int y_14)) h15) ?_
              refine WL.gyes rfl rfl hb35 ?_
              obtain ⟨x37, hx37, hg36⟩ := bindE hg36
              refine W.idx (α := Str) R6 rfl rfl el22 hx37 ?_
              rintro a38 _ hA39 rfl
              refine WL.gyes rfl rfl hb35 ?_
              refine WL.valw (R.loadH (v := (str x37)) S rfl hA39 lay9 rfl) ?_
              refine WL.gyes rfl rfl hb35 ?_
              refine WL.valw (R.eqlS (a := x37) (b := [42]) rfl rfl) ?_
              refine WL.valw (R.pickF rfl hb35 rfl) ?_
              exact WL.nil ⟨(congrArg boo (Option.some.inj hg36)), (by repeat (first | refine agree_upd rfl ?_ | refine agree_upds' rfl ?_ | exact agree_refl)), rfl⟩
          · intro us
            refine WL.nil ?_
            rcases condE hy22 with ⟨hc41, hy22⟩ | ⟨hc41, hy22⟩
            · refine WP.condT rfl hc41 ?_
              refine WP.seq ?_
              refine WP.region ?_
              refine WL.valw (R.as (v := (.slice none 0 0)) rfl) ?_
              refine WL.valw (R.as (v := (boo false)) rfl) ?_
              refine WL.nil ?_
              obtain rfl := Option.some.inj hy22
              obtain rfl := hy23
              obtain rfl := Option.some.inj h
              refine WP.ret (Out.two rfl S rfl rfl ?_)
              exact ⟨_, rfl, Sl.nil⟩
            · refine WP.condF rfl hc41 ?_
              refine WP.skip ?_
              refine WP.seq ?_
              refine WP.region ?_
              refine WL.valw (R.mv (v := v2) h9) ?_
              refine WL.valw (R.mv (v := (int y_14)) h15) ?_
              obtain ⟨x42, hx42, hy22⟩ := bindE hy22
              refine W.idx (α := Str) R6 rfl rfl el22 hx42 ?_
              rintro a43 _ hA44 rfl
              refine WL.valw (R.loadH (v := (str x42)) S rfl hA44 lay9 rfl) ?_
              obtain ⟨r45, hr45, hy22⟩ := bindE hy22
              refine W.call S rfl (ref01_Lower_ok S.holds x42 hr45) ?_
              rintro v46 w47 H48 hle49 S rfl
              have R6 := Sl.mono R6 hle49
              have R12 := Sl.mono R12 hle49
              have hA29 := At.mono hA29 hle49 (by simp)
              have hA44 := At.mono hA44 hle49 (by simp)
              refine WL.valw (R.as (v := (str r45)) rfl) ?_
              refine WL.nil ?_
              refine WP.seq ?_
              refine WP.region ?_
              refine WL.valw (R.as (v := (int 0)) rfl) ?_
              refine WL.nil ?_
              refine WP.seq ?_
              obtain ⟨y_62, hr68, hy22⟩ := bindE hy22
              refine WP.cut (fun f w => ∃ (H57 : Hp), f 4 = v2 ∧ f 5 = v11 ∧ f 6 = (int y_14) ∧ f 7 = (str r45) ∧ f 8 = (int y_62) ∧ Sl (α := Str) H57 v2 r1 ∧ Sl (α := Str) H57 v11 y_10 ∧ St w0 H0 w H57 []) ?_ ?_
              · refine WP.block ?_
                refine WP.loopM (ref19_VaryNames_L0 y_10 r45) (fun s f w => match s with | y_55 => ∃ (H50 : Hp), f 4 = v2 ∧ f 5 = v11 ∧ f 6 = (int y_14) ∧ f 7 = (str r45) ∧ f 8 = (int y_55) ∧ Sl (α := Str) H50 v2 r1 ∧ Sl (α := Str) H50 v11 y_10 ∧ St w0 H0 w H50 []) 0 y_62 hr68 ?_ ?_
                · exact ⟨H48, h9, h13, h15, rfl, rfl, R6, R12, S⟩
                · intro y_55 f w hI y64 hy65 hy66
                  obtain ⟨H50, h51, h52, h53, h54, h56, R6, R12, S⟩ := hI
                  refine WP.seq ?_
                  refine WP.seq ?_
                  refine WP.region ?_
                  refine WL.valw (R.mv (v := (int y_55)) h56) ?_
                  refine WL.valw (R.mv (v := v11) h52) ?_
                  refine WL.valw (R.lenL (α := Str) (xs := y_10) (H := H50) R12 rfl Tryd.underlying22) ?_
                  refine WL.valw (R.lss rfl rfl) ?_
                  refine WL.valw (R.mv (v := (boo (decide (y_55 < (y_10.length : Int))))) rfl) ?_
                  obtain ⟨b74, hg70, hy65⟩ := bindE hy65
                  refine WL.grp 7 [44, 45, 46, 47, 48, 49] 50 (boo b74) ?_ ?_
                  · rcases boolE (decide (y_55 < (y_10.length : Int))) with hb69 | hb69
                    · replace hg70 := condT hg70 hb69
                      refine WL.gyes rfl rfl hb69 ?_
                      refine WL.valw (R.mv (v := v11) h52) ?_
                      refine WL.gyes rfl rfl hb69 ?_
                      refine WL.valw (R.mv (v := (int y_55)) h56) ?_
                      refine WL.gyes rfl rfl hb69 ?_
                      obtain ⟨x71, hx71, hg70⟩ := bindE hg70
                      refine W.idx (α := Str) R12 rfl rfl el22 hx71 ?_
                      rintro a72 _ hA73 rfl
                      refine WL.gyes rfl rfl hb69 ?_
                      refine WL.valw (R.loadH (v := (str x71)) S rfl hA73 lay9 rfl) ?_
                      refine WL.gyes rfl rfl hb69 ?_
                      refine WL.valw (R.mv (v := (str r45)) h54) ?_
                      refine WL.gyes rfl rfl hb69 ?_
                      refine WL.valw (R.lssS (a := x71) (b := r45) rfl rfl) ?_
                      refine WL.valw (R.pickT rfl hb69 rfl) ?_
                      exact WL.nil ⟨(congrArg boo (Option.some.inj hg70)), (by repeat (first | refine agree_upd rfl ?_ | refine agree_upds' rfl ?_ | exact agree_refl)), rfl⟩
                    · replace hg70 := condF hg70 hb69
                      refine WL.gno rfl rfl hb69 ?_
                      refine WL.gno rfl rfl hb69 ?_
                      refine WL.gno rfl rfl hb69 ?_
                      refine WL.gno rfl rfl hb69 ?_
                      refine WL.gno rfl rfl hb69 ?_
                      refine WL.gno rfl rfl hb69 ?_
                      refine WL.valw (R.pickF rfl hb69 rfl) ?_
                      exact WL.nil ⟨(congrArg boo (Option.some.inj hg70)), (by repeat (first | refine agree_upd rfl ?_ | refine agree_upds' rfl ?_ | exact agree_refl)), rfl⟩
                  · intro us
                    refine WL.nil ?_
                    rcases condE hy65 with ⟨hc75, hy65⟩ | ⟨hc75, hy65⟩
                    · refine WP.condT rfl hc75 ?_
                      refine WP.skip ?_
                      refine WP.block ?_
                      refine WP.region ?_
                      refine WL.valw (R.mv (v := (int y_55)) h56) ?_
                      refine WL.valw (R.add rfl rfl) ?_
                      refine WL.valw (R.as (v := (int (wr (y_55 + 1)))) rfl) ?_
                      refine WL.nil ?_
                      obtain rfl := Option.some.inj hy65
                      exact ⟨rfl, ⟨H50, h51, h52, h53, h54, rfl, R6, R12, S⟩⟩
                    · refine WP.condF rfl hc75 ?_
                      refine WP.exit ?_
                      obtain rfl := Option.some.inj hy65
                      obtain rfl := hy66
                      exact ⟨H50, h51, h52, h53, h54, h56, R6, R12, S⟩
              · rintro f w ⟨H57, h58, h59, h60, h61, h63, R6, R12, S⟩
                refine WP.seq ?_
                refine WP.seq ?_
                refine WP.region ?_
                refine WL.valw (R.mv (v := (int y_62)) h63) ?_
                refine WL.valw (R.mv (v := v11) h59) ?_
                refine WL.valw (R.lenL (α := Str) (xs := y_10) (H := H57) R12 rfl Tryd.underlying22) ?_
                refine WL.valw (R.lss rfl rfl) ?_
                refine WL.valw (R.mv (v := (boo (decide (y_62 < (y_10.length : Int))))) rfl) ?_
                obtain ⟨b81, hg77, hy22⟩ := bindE hy22
                refine WL.grp 7 [58, 59, 60, 61, 62, 63] 64 (boo b81) ?_ ?_
                · rcases boolE (decide (y_62 < (y_10.length : Int))) with hb76 | hb76
                  · replace hg77 := condT hg77 hb76
                    refine WL.gyes rfl rfl hb76 ?_
                    refine WL.valw (R.mv (v := v11) h59) ?_
                    refine WL.gyes rfl rfl hb76 ?_
                    refine WL.valw (R.mv (v := (int y_62)) h63) ?_
                    refine WL.gyes rfl rfl hb76 ?_
                    obtain ⟨x78, hx78, hg77⟩ := bindE hg77
                    refine W.idx (α := Str) R12 rfl rfl el22 hx78 ?_
                    rintro a79 _ hA80 rfl
                    refine WL.gyes rfl rfl hb76 ?_
                    refine WL.valw (R.loadH (v := (str x78)) S rfl hA80 lay9 rfl) ?_
                    refine WL.gyes rfl rfl hb76 ?_
                    refine WL.valw (R.mv (v := (str r45)) h61) ?_
                    refine WL.gyes rfl rfl hb76 ?_
                    refine WL.valw (R.eqlS (a := x78) (b := r45) rfl rfl) ?_
                    refine WL.valw (R.pickT rfl hb76 rfl) ?_
                    exact WL.nil ⟨(congrArg boo (Option.some.inj hg77)), (by repeat (first | refine agree_upd rfl ?_ | refine agree_upds' rfl ?_ | exact agree_refl)), rfl⟩
                  · replace hg77 := condF hg77 hb76
                    refine WL.gno rfl rfl hb76 ?_
                    refine WL.gno rfl rfl hb76 ?_
                    refine WL.gno rfl rfl hb76 ?_
                    refine WL.gno rfl rfl hb76 ?_
                    refine WL.gno rfl rfl hb76 ?_
                    refine WL.gno rfl rfl hb76 ?_
                    refine WL.valw (R.pickF rfl hb76 rfl) ?_
                    exact WL.nil ⟨(congrArg boo (Option.some.inj hg77)), (by repeat (first | refine agree_upd rfl ?_ | refine agree_upds' rfl ?_ | exact agree_refl)), rfl⟩
                · intro us
                  refine WL.nil ?_
                  rcases condE hy22 with ⟨hc82, hy22⟩ | ⟨hc82, hy22⟩
                  · refine WP.condT rfl hc82 ?_
                    refine WP.exit ?_
                    refine WP.region ?_
                    refine WL.valw (R.mv (v := (int y_14)) h60) ?_
                    refine WL.valw (R.add rfl rfl) ?_
                    refine WL.valw (R.as (v := (int (wr (y_14 + 1)))) rfl) ?_
                    refine WL.nil ?_
                    obtain rfl := Option.some.inj hy22
                    exact ⟨rfl, ⟨H57, v11, h58, h59, rfl, R6, R12, S⟩⟩
                  · refine WP.condF rfl hc82 ?_
                    refine WP.skip ?_
                    refine WP.seq ?_
                    refine WP.region ?_
                    refine WL.valw (R.mv (v := v11) h59) ?_
                    refine WL.valw (R.mv (v := (int y_62)) h63) ?_
                    obtain ⟨l83, hl83, hy22⟩ := bindE hy22
                    refine W.subHi (α := Str) R12 rfl rfl el22 hl83 ?_
                    intro v84 R85
                    have S := S.addNil 9 1
                    obtain ⟨l86, hl86, hy22⟩ := bindE hy22
                    refine W.app (α := Str) (i := 0) S el22 rfl rfl rfl Sl.nil R85 hl86 ?_
                    intro v87 w88 H89 hle90 R91 S
                    have R6 := Sl.mono R6 hle90
                    have R12 := Sl.mono R12 hle90
                    have R85 := Sl.mono R85 hle90
                    refine WL.valw (R.as (v := v87) rfl) ?_
                    refine WL.nil ?_
                    refine WP.draw (by kernel_rfl) 9 rfl #[false, false, false, false, false, false, false, false, false] rfl ?_
                    have S := S.drew
                    refine WA.take (i := 0) #[true, false, false, false, false, false, false, false, false] rfl (by kernel_rfl) (by kernel_rfl) (by kernel_rfl) rfl (fun _ => (R.mv (v := v87) rfl)) ?_
                    refine WA.take (i := 1) #[true, true, false, false, false, false, false, false, false] rfl (by kernel_rfl) (by kernel_rfl) (by kernel_rfl) rfl (fun _ => (R.mv (v := (str r45)) h61)) ?_
                    refine WA.take (i := 4) #[true, true, false, false, true, false, false, false, false] rfl (by kernel_rfl) (by kernel_rfl) (by kernel_rfl) rfl (fun _ => (R.mv (v := v11) h59)) ?_
                    refine WA.take (i := 5) #[true, true, false, false, true, true, false, false, false] rfl (by kernel_rfl) (by kernel_rfl) (by kernel_rfl) rfl (fun _ => (R.mv (v := (int y_62)) h63)) ?_
                    obtain ⟨l92, hl92, hy22⟩ := bindE hy22
                    refine WA.subLo (k := 6) #[true, true, false, false, true, true, true, false, false] rfl (by kernel_rfl) (by kernel_rfl) (by kernel_rfl) rfl (α := Str) R12 rfl rfl el22 hl92 ?_
                    intro v93 R94
                    refine WA.one (i := 2) #[true, true, true, false, true, true, true, false, false] rfl (by kernel_rfl) rfl ?_
                    refine W.bslice (α := Str) [(str r45)] ([r45] : List Str) S el22 rfl rfl rfl (by decide) (Go.Eng.encS ⟨rfl, rfl⟩ enc0) ?_
                    intro u95 w96 H97 hle98 R99 S
                    have R6 := Sl.mono R6 hle98
                    have R12 := Sl.mono R12 hle98
                    have R85 := Sl.mono R85 hle98
                    have R91 := Sl.mono R91 hle98
                    have R94 := Sl.mono R94 hle98
                    refine WL.nil ?_
                    refine WA.one (i := 3) #[true, true, true, true, true, true, true, false, false] rfl (by kernel_rfl) rfl ?_
                    obtain ⟨l100, hl100, hy22⟩ := bindE hy22
                    refine W.app (α := Str) (i := 1) S el22 rfl rfl rfl R91 R99 hl100 ?_
                    intro v101 w102 H103 hle104 R105 S
                    have R6 := Sl.mono R6 hle104
                    have R12 := Sl.mono R12 hle104
                    have R85 := Sl.mono R85 hle104
                    have R91 := Sl.mono R91 hle104
                    have R94 := Sl.mono R94 hle104
                    have R99 := Sl.mono R99 hle104
                    refine WL.nil ?_
                    refine WA.one (i := 7) #[true, true, true, true, true, true, true, true, false] rfl (by kernel_rfl) rfl ?_
                    obtain ⟨l106, hl106, hy22⟩ := bindE hy22
                    refine W.app (α := Str) (i := 1) S el22 rfl rfl rfl R105 R94 hl106 ?_
                    intro v107 w108 H109 hle110 R111 S
                    have R6 := Sl.mono R6 hle110
                    have R12 := Sl.mono R12 hle110
                    have R85 := Sl.mono R85 hle110
                    have R91 := Sl.mono R91 hle110
                    have R94 := Sl.mono R94 hle110
                    have R99 := Sl.mono R99 hle110
                    have R105 := Sl.mono R105 hle110
                    refine WL.nil ?_
                    refine WA.take (i := 8) #[true, true, true, true, true, true, true, true, true] rfl (by kernel_rfl) (by kernel_rfl) (by kernel_rfl) rfl (fun _ => (R.as (v := v107) rfl)) ?_
                    refine WA.done (by kernel_rfl) ?_
                    refine WP.region ?_
                    refine WL.valw (R.mv (v := (int y_14)) h60) ?_
                    refine WL.valw (R.add rfl rfl) ?_
                    refine WL.valw (R.as (v := (int (wr (y_14 + 1)))) rfl) ?_
                    refine WL.nil ?_
                    obtain rfl := Option.some.inj hy22
                    exact ⟨rfl, ⟨H109, v107, h58, rfl, rfl, R6, R111, (S.drop _ (.cons _ (.cons _ .slnil)))⟩⟩
        · refine WP.condF rfl hc26 ?_
          refine WP.exit ?_
          obtain rfl := Option.some.inj hy22
          obtain rfl := hy23
          exact ⟨H8, v11, h13, R12, S⟩
    · intro f w hM
      rcases r24 with y_17 | e
      · obtain ⟨H16, v18, h20, R19, S⟩ := hM
        refine WP.seq ?_
        refine WP.region ?_
        refine WL.valw (R.mv (v := v18) h20) ?_
        refine WL.valw (R.as (v := v18) rfl) ?_
        refine WL.valw (R.as (v := (boo true)) rfl) ?_
        refine WL.nil ?_
        obtain rfl := Option.some.inj h
        refine WP.ret (Out.two rfl S rfl rfl ?_)
        exact ⟨_, rfl, R19⟩
      · exact hM.elim
set_option maxRecDepth 10000 in
set_option maxHeartbeats 4000000 in
theorem law19_VaryNames_ok {w0 : World} {H0 : Hp} (hw : Holds w0 H0) (p_l : (List GField)) {vp_l : Value} (Rp_l : Sl (α := GField) H0 vp_l p_l) {r : Bool} (h : law19_VaryNames p_l = some r) :
    Con Tryd.prog 5 [vp_l] w0 H0 (fun H' v => v = (boo r)) := by
  refine Con.mk (N := 31) Tryd.func5 rfl rfl (by kernel_rfl) rfl ?_
  have S := St.start hw
  refine WP.seq ?_
  refine WP.region ?_
  refine WL.valw (R.as (v := (boo false)) rfl) ?_
  refine WL.nil ?_
  refine WP.seq ?_
  refine WP.seq ?_
  refine WP.region ?_
  refine WL.valw (R.mv (v := vp_l) rfl) ?_
  obtain ⟨r1, hr1, h⟩ := bindE h
  refine W.call S rfl (keep_Fields_ok S.holds p_l Rp_l hr1) ?_
  rintro v2 w3 H4 hle5 S rfl
  have Rp_l := Sl.mono Rp_l hle5
  refine WL.valw (R.not rfl) ?_
  refine WL.nil ?_
  rcases condE h with ⟨hc6, h⟩ | ⟨hc6, h⟩
  · refine WP.condT rfl hc6 ?_
    refine WP.seq ?_
    refine WP.region ?_
    refine WL.valw (R.as (v := (boo true)) rfl) ?_
    refine WL.nil ?_
    obtain rfl := Option.some.inj h
    refine WP.ret (Out.one rfl S rfl ?_)
    exact rfl
  · refine WP.condF rfl hc6 ?_
    refine WP.skip ?_
    refine WP.seq ?_
    refine WP.region ?_
    refine WL.valw (R.mv (v := vp_l) rfl) ?_
    obtain ⟨r7, hr7, h⟩ := bindE h
    refine W.call S rfl (vary_Names_ok S.holds p_l Rp_l hr7) ?_
    rintro v8 w9 H10 hle11 S ⟨u12, rfl, R13⟩
    have Rp_l := Sl.mono Rp_l hle11
    refine WL.valw (R.mv (v := (.tuple ⟨[u12, (boo r7.2)]⟩)) rfl) ?_
    refine WL.valw (R.ext rfl rfl) ?_
    refine WL.valw (R.ext rfl rfl) ?_
    refine WL.valw (R.as (v := u12) rfl) ?_
    refine WL.valw (R.as (v := (boo r7.2)) rfl) ?_
    refine WL.nil ?_
    refine WP.seq ?_
    refine WP.region ?_
    refine WL.valw (R.mv (v := vp_l) rfl) ?_
    obtain ⟨r14, hr14, h⟩ := bindE h
    refine W.call S rfl (ref19_VaryNames_ok S.holds p_l Rp_l hr14) ?_
    rintro v15 w16 H17 hle18 S ⟨u19, rfl, R20⟩
    have Rp_l := Sl.mono Rp_l hle18
    have R13 := Sl.mono R13 hle18
    refine WL.valw (R.mv (v := (.tuple ⟨[u19, (boo r14.2)]⟩)) rfl) ?_
    refine WL.valw (R.ext rfl rfl) ?_
    refine WL.valw (R.ext rfl rfl) ?_
    refine WL.valw (R.as (v := u19) rfl) ?_
    refine WL.valw (R.as (v := (boo r14.2)) rfl) ?_
    refine WL.nil ?_
    refine WP.seq ?_
    refine WP.region ?_
    refine WL.valw (R.mv (v := u12) rfl) ?_
    refine WL.valw (R.mv (v := u19) rfl) ?_
    obtain ⟨r21, hr21, h⟩ := bindE h
    refine W.call S rfl (keep_SameStrings_ok S.holds r7.1 r14.1 R13 R20 hr21) ?_
    rintro v22 w23 H24 hle25 S rfl
    have Rp_l := Sl.mono Rp_l hle25
    have R13 := Sl.mono R13 hle25
    have R20 := Sl.mono R20 hle25
    refine WL.valw (R.mv (v := (boo r21)) rfl) ?_
    refine WL.grp 4 [24, 25, 26] 27 (boo (r21 && (r7.2 == r14.2))) ?_ ?_
    · rcases boolE r21 with hb26 | hb26
      · refine WL.gyes rfl rfl hb26 ?_
        refine WL.valw (R.mv (v := (boo r7.2)) rfl) ?_
        refine WL.gyes rfl rfl hb26 ?_
        refine WL.valw (R.mv (v := (boo r14.2)) rfl) ?_
        refine WL.gyes rfl rfl hb26 ?_
        refine WL.valw (R.eqlB rfl rfl Tryd.underlying4) ?_
        refine WL.valw (R.pickT rfl hb26 rfl) ?_
        exact WL.nil ⟨(andT hb26), (by repeat (first | refine agree_upd rfl ?_ | refine agree_upds' rfl ?_ | exact agree_refl)), rfl⟩
      · refine WL.gno rfl rfl hb26 ?_
        refine WL.gno rfl rfl hb26 ?_
        refine WL.gno rfl rfl hb26 ?_
        refine WL.valw (R.pickF rfl hb26 rfl) ?_
        exact WL.nil ⟨(andF hb26), (by repeat (first | refine agree_upd rfl ?_ | refine agree_upds' rfl ?_ | exact agree_refl)), rfl⟩
    · intro us
      refine WL.valw (R.mv (v := (boo (r21 && (r7.2 == r14.2)))) rfl) ?_
      obtain ⟨b35, hg29, h⟩ := bindE h
      refine WL.grpw 2 [29] 30 (boo b35) (fun w => ∃ H' : Hp, H24.le H' ∧ St w0 H0 w H' []) ?_ ?_
      · rcases boolE (r21 && (r7.2 == r14.2)) with hb28 | hb28
        · replace hg29 := condT hg29 hb28
          refine WL.gyes rfl rfl hb28 ?_
          obtain ⟨r30, hr30, hg29⟩ := bindE hg29
          refine W.call S rfl (law19_awake_ok S.holds  hr30) ?_
          rintro v31 w32 H33 hle34 S rfl
          have Rp_l := Sl.mono Rp_l hle34
          have R13 := Sl.mono R13 hle34
          have R20 := Sl.mono R20 hle34
          refine WL.valw (R.pickT rfl hb28 rfl) ?_
          exact WL.nil ⟨(congrArg boo (Option.some.inj hg29)), (by repeat (first | refine agree_upd rfl ?_ | refine agree_upds' rfl ?_ | exact agree_refl)), ⟨H33, hle34, S⟩⟩
        · replace hg29 := condF hg29 hb28
          refine WL.gno rfl rfl hb28 ?_
          refine WL.valw (R.pickF rfl hb28 rfl) ?_
          exact WL.nil ⟨(congrArg boo (Option.some.inj hg29)), (by repeat (first | refine agree_upd rfl ?_ | refine agree_upds' rfl ?_ | exact agree_refl)), ⟨H24, (Hp.le.refl _), S⟩⟩
      · intro us w37 ⟨H36, hle38, S⟩
        have Rp_l := Sl.mono Rp_l hle38
        have R13 := Sl.mono R13 hle38
        have R20 := Sl.mono R20 hle38
        refine WL.valw (R.as (v := (boo b35)) rfl) ?_
        refine WL.nil ?_
        obtain rfl := Option.some.inj h
        refine WP.ret (Out.one rfl S rfl ?_)
        exact rfl
set_option maxRecDepth 10000 in
set_option maxHeartbeats 4000000 in
theorem law19_VarySorted_ok {w0 : World} {H0 : Hp} (hw : Holds w0 H0) (p_ppend : (List GField)) {vp_ppend : Value} (Rp_ppend : Sl (α := GField) H0 vp_ppend p_ppend) {r : Bool} (h : law19_VarySorted p_ppend = some r) :
    Con Tryd.prog 6 [vp_ppend] w0 H0 (fun H' v => v = (boo r)) := by
  refine Con.mk (N := 102) Tryd.func6 rfl rfl (by kernel_rfl) rfl ?_
  have S := St.start hw
  refine WP.seq ?_
  refine WP.region ?_
  refine WL.valw (R.as (v := (boo false)) rfl) ?_
  refine WL.nil ?_
  refine WP.seq ?_
  refine WP.seq ?_
  refine WP.region ?_
  refine WL.valw (R.mv (v := vp_ppend) rfl) ?_
  obtain ⟨r1, hr1, h⟩ := bindE h
  refine W.call S rfl (keep_Fields_ok S.holds p_ppend Rp_ppend hr1) ?_
  rintro v2 w3 H4 hle5 S rfl
  have Rp_ppend := Sl.mono Rp_ppend hle5
  refine WL.valw (R.not rfl) ?_
  refine WL.nil ?_
  rcases condE h with ⟨hc6, h⟩ | ⟨hc6, h⟩
  · refine WP.condT rfl hc6 ?_
    refine WP.seq ?_
    refine WP.region ?_
    refine WL.valw (R.as (v := (boo true)) rfl) ?_
    refine WL.nil ?_
    obtain rfl := Option.some.inj h
    refine WP.ret (Out.one rfl S rfl ?_)
    exact rfl
  · refine WP.condF rfl hc6 ?_
    refine WP.skip ?_
    refine WP.seq ?_
    refine WP.region ?_
    refine WL.valw (R.mv (v := vp_ppend) rfl) ?_
    obtain ⟨r7, hr7, h⟩ := bindE h
    refine W.call S rfl (vary_Names_ok S.holds p_ppend Rp_ppend hr7) ?_
    rintro v8 w9 H10 hle11 S ⟨u12, rfl, R13⟩
    have Rp_ppend := Sl.mono Rp_ppend hle11
    refine WL.valw (R.mv (v := (.tuple ⟨[u12, (boo r7.2)]⟩)) rfl) ?_
    refine WL.valw (R.ext rfl rfl) ?_
    refine WL.valw (R.ext rfl rfl) ?_
    refine WL.valw (R.as (v := u12) rfl) ?_
    refine WL.valw (R.as (v := (boo r7.2)) rfl) ?_
    refine WL.nil ?_
    refine WP.seq ?_
    refine WP.seq ?_
    refine WP.region ?_
    refine WL.valw (R.mv (v := (boo r7.2)) rfl) ?_
    refine WL.valw (R.not rfl) ?_
    refine WL.nil ?_
    rcases condE h with ⟨hc14, h⟩ | ⟨hc14, h⟩
    · refine WP.condT rfl hc14 ?_
      refine WP.seq ?_
      refine WP.region ?_
      refine WL.valw (R.mv (v := u12) rfl) ?_
      refine WL.valw (R.lenL (α := Str) (xs := r7.1) (H := H10) R13 rfl Tryd.underlying22) ?_
      refine WL.valw (R.eql rfl rfl) ?_
      refine WL.valw (R.mv (v := (boo ((r7.1.length : Int) == 0))) rfl) ?_
      obtain ⟨b22, hg16, h⟩ := bindE h
      refine WL.grpw 2 [24] 25 (boo b22) (fun w => ∃ H' : Hp, H10.le H' ∧ St w0 H0 w H' []) ?_ ?_
      · rcases boolE ((r7.1.length : Int) == 0) with hb15 | hb15
        · replace hg16 := condT hg16 hb15
          refine WL.gyes rfl rfl hb15 ?_
          obtain ⟨r17, hr17, hg16⟩ := bindE hg16
          refine W.call S rfl (law19_awake_ok S.holds  hr17) ?_
          rintro v18 w19 H20 hle21 S rfl
          have Rp_ppend := Sl.mono Rp_ppend hle21
          have R13 := Sl.mono R13 hle21
          refine WL.valw (R.pickT rfl hb15 rfl) ?_
          exact WL.nil ⟨(congrArg boo (Option.some.inj hg16)), (by repeat (first | refine agree_upd rfl ?_ | refine agree_upds' rfl ?_ | exact agree_refl)), ⟨H20, hle21, S⟩⟩
        · replace hg16 := condF hg16 hb15
          refine WL.gno rfl rfl hb15 ?_
          refine WL.valw (R.pickF rfl hb15 rfl) ?_
          exact WL.nil ⟨(congrArg boo (Option.some.inj hg16)), (by repeat (first | refine agree_upd rfl ?_ | refine agree_upds' rfl ?_ | exact agree_refl)), ⟨H10, (Hp.le.refl _), S⟩⟩
      · intro us w24 ⟨H23, hle25, S⟩
        have Rp_ppend := Sl.mono Rp_ppend hle25
        have R13 := Sl.mono R13 hle25
        refine WL.valw (R.as (v := (boo b22)) rfl) ?_
        refine WL.nil ?_
        obtain rfl := Option.some.inj h
        refine WP.ret (Out.one rfl S rfl ?_)
        exact rfl
    · refine WP.condF rfl hc14 ?_
      refine WP.skip ?_
      refine WP.seq ?_
      refine WP.seq ?_
      refine WP.region ?_
      refine WL.valw (R.as (v := (int 0)) rfl) ?_
      refine WL.nil ?_
      obtain ⟨r37, hr38, h⟩ := bindE h
      refine WP.cut (fun f w => match r37 with | .inl _ => ∃ (H31 : Hp), f 0 = vp_ppend ∧ f 3 = u12 ∧ Sl (α := GField) H31 vp_ppend p_ppend ∧ Sl (α := Str) H31 u12 r7.1 ∧ St w0 H0 w H31 [] | .inr _ => False) ?_ ?_
      · refine WP.block ?_
        refine WP.loopM (law19_VarySorted_L0 r7) (fun s f w => match s with | y_29 => ∃ (H26 : Hp), f 0 = vp_ppend ∧ f 3 = u12 ∧ f 5 = (int y_29) ∧ Sl (α := GField) H26 vp_ppend p_ppend ∧ Sl (α := Str) H26 u12 r7.1 ∧ St w0 H0 w H26 []) 0 r37 hr38 ?_ ?_
        · exact ⟨H10, rfl, rfl, rfl, Rp_ppend, R13, S⟩
        · intro y_29 f w hI y34 hy35 hy36
          obtain ⟨H26, h27, h28, h30, Rp_ppend, R13, S⟩ := hI
          refine WP.seq ?_
          refine WP.seq ?_
          refine WP.region ?_
          refine WL.valw (R.mv (v := (int y_29)) h30) ?_
          refine WL.valw (R.mv (v := u12) h28) ?_
          refine WL.valw (R.lenL (α := Str) (xs := r7.1) (H := H26) R13 rfl Tryd.underlying22) ?_
          refine WL.valw (R.lss rfl rfl) ?_
          refine WL.nil ?_
          rcases condE hy35 with ⟨hc39, hy35⟩ | ⟨hc39, hy35⟩
          · refine WP.condT rfl hc39 ?_
            refine WP.skip ?_
            refine WP.seq ?_
            refine WP.block ?_
            refine WP.seq ?_
            refine WP.quiet S (by kernel_rfl) (by kernel_rfl) ?_
            refine WQ.val (fun _ _ => (R.mv (v := u12) h28)) ?_
            refine WQ.val (fun _ _ => (R.mv (v := (int y_29)) h30)) ?_
            obtain ⟨x43, hx43, hy35⟩ := bindE hy35
            refine WQ.idx (α := Str) R13 rfl rfl el22 hx43 ?_
            rintro a44 _ hA45 rfl
            refine WQ.val (fun w hw => by obtain ⟨_, hq, S⟩ := hw; exact (R.loadH (v := (str x43)) S rfl (At.mono hA45 hq (by simp)) lay9 rfl)) ?_
            obtain ⟨r46, hr46, hy35⟩ := bindE hy35
            refine WQ.call (v := (str r46)) rfl (fun w H' hq S => ref01_Lower_ok S.holds x43 hr46) ?_
            refine WQ.val (fun _ _ => (R.mv (v := u12) h28)) ?_
            refine WQ.val (fun _ _ => (R.mv (v := (int y_29)) h30)) ?_
            obtain ⟨x51, hx51, hy35⟩ := bindE hy35
            refine WQ.idx (α := Str) R13 rfl rfl el22 hx51 ?_
            rintro a52 _ hA53 rfl
            refine WQ.val (fun w hw => by obtain ⟨_, hq, S⟩ := hw; exact (R.loadH (v := (str x51)) S rfl (At.mono hA53 hq (by simp)) lay9 rfl)) ?_
            refine WQ.val (fun _ _ => (R.neqS (a := r46) (b := x51) rfl rfl)) ?_
            refine WQ.val (fun _ _ => (R.mv (v := (boo (r46 != x51))) rfl)) ?_
            obtain ⟨b64, hg55, hy35⟩ := bindE hy35
            refine WQ.grp 7 [43, 44, 45, 46, 47, 48] 49 (boo b64) ?_ ?_
            · rcases boolE (r46 != x51) with hb54 | hb54
              · replace hg55 := condT hg55 hb54
                refine WQ.gno rfl rfl hb54 ?_
                refine WQ.gno rfl rfl hb54 ?_
                refine WQ.gno rfl rfl hb54 ?_
                refine WQ.gno rfl rfl hb54 ?_
                refine WQ.gno rfl rfl hb54 ?_
                refine WQ.gno rfl rfl hb54 ?_
                refine WQ.val (fun _ _ => (R.pickT rfl hb54 rfl)) ?_
                exact WQ.nil ⟨(congrArg boo (Option.some.inj hg55)), (by repeat (first | refine agree_upd rfl ?_ | refine agree_upds' rfl ?_ | exact agree_refl))⟩
              · replace hg55 := condF hg55 hb54
                refine WQ.gyes rfl rfl hb54 ?_
                refine WQ.val (fun _ _ => (R.mv (v := u12) h28)) ?_
                refine WQ.gyes rfl rfl hb54 ?_
                refine WQ.val (fun _ _ => (R.mv (v := (int y_29)) h30)) ?_
                refine WQ.gyes rfl rfl hb54 ?_
                obtain ⟨x56, hx56, hg55⟩ := bindE hg55
                refine WQ.idx (α := Str) R13 rfl rfl el22 hx56 ?_
                rintro a57 _ hA58 rfl
                refine WQ.gyes rfl rfl hb54 ?_
                refine WQ.val (fun w hw => by obtain ⟨_, hq, S⟩ := hw; exact (R.loadH (v := (str x56)) S rfl (At.mono hA58 hq (by simp)) lay9 rfl)) ?_
                refine WQ.gyes rfl rfl hb54 ?_
                obtain ⟨r59, hr59, hg55⟩ := bindE hg55
                refine WQ.call (v := (boo r59)) rfl (fun w H' hq S => ref01_Token_ok S.holds x56 hr59) ?_
                refine WQ.gyes rfl rfl hb54 ?_
                refine WQ.val (fun _ _ => (R.not rfl)) ?_
                refine WQ.val (fun _ _ => (R.pickF rfl hb54 rfl)) ?_
                exact WQ.nil ⟨(congrArg boo (Option.some.inj hg55)), (by repeat (first | refine agree_upd rfl ?_ | refine agree_upds' rfl ?_ | exact agree_refl))⟩
            · intro us
              refine WQ.val (fun _ _ => (R.mv (v := (boo b64)) rfl)) ?_
              obtain ⟨b76, hg66, hy35⟩ := bindE hy35
              refine WQ.grp 15 [51, 52, 53, 54, 55, 56, 57, 58, 59, 60, 61, 62, 63, 64] 65 (boo b76) ?_ ?_
              · rcases boolE b64 with hb65 | hb65
                · replace hg66 := condT hg66 hb65
                  refine WQ.gno rfl rfl hb65 ?_
                  refine WQ.gno rfl rfl hb65 ?_
                  refine WQ.gno rfl rfl hb65 ?_
                  refine WQ.gund rfl rfl ?_
                  refine WQ.gund rfl rfl ?_
                  refine WQ.gund rfl rfl ?_
                  refine WQ.gund rfl rfl ?_
                  refine WQ.gund rfl rfl ?_
                  refine WQ.gund rfl rfl ?_
                  refine WQ.gund rfl rfl ?_
                  refine WQ.gund rfl rfl ?_
                  refine WQ.gund rfl rfl ?_
                  refine WQ.gund rfl rfl ?_
                  refine WQ.gno rfl rfl hb65 ?_
                  refine WQ.val (fun _ _ => (R.pickT rfl hb65 rfl)) ?_
                  exact WQ.nil ⟨(congrArg boo (Option.some.inj hg66)), (by repeat (first | refine agree_upd rfl ?_ | refine agree_upds' rfl ?_ | exact agree_refl))⟩
                · replace hg66 := condF hg66 hb65
                  refine WQ.gyes rfl rfl hb65 ?_
                  refine WQ.val (fun _ _ => (R.mv (v := (int y_29)) h30)) ?_
                  refine WQ.gyes rfl rfl hb65 ?_
                  refine WQ.val (fun _ _ => (R.gtr rfl rfl)) ?_
                  refine WQ.gyes rfl rfl hb65 ?_
                  refine WQ.val (fun _ _ => (R.mv (v := (boo (decide (0 < y_29)))) rfl)) ?_
                  obtain ⟨b75, hg68, hg66⟩ := bindE hg66
                  refine WQ.grp 11 [54, 55, 56, 57, 58, 59, 60, 61, 62, 63] 64 (boo b75) ?_ ?_
                  · rcases boolE (decide (0 < y_29)) with hb67 | hb67
                    · replace hg68 := condT hg68 hb67
                      refine WQ.gyes rfl rfl hb67 ?_
                      refine WQ.val (fun _ _ => (R.mv (v := u12) h28)) ?_
                      refine WQ.gyes rfl rfl hb67 ?_
                      refine WQ.val (fun _ _ => (R.mv (v := (int y_29)) h30)) ?_
                      refine WQ.gyes rfl rfl hb67 ?_
                      refine WQ.val (fun _ _ => (R.sub rfl rfl)) ?_
                      refine WQ.gyes rfl rfl hb67 ?_
                      obtain ⟨x69, hx69, hg68⟩ := bindE hg68
                      refine WQ.idx (α := Str) R13 rfl rfl el22 hx69 ?_
                      rintro a70 _ hA71 rfl
                      refine WQ.gyes rfl rfl hb67 ?_
                      refine WQ.val (fun w hw => by obtain ⟨_, hq, S⟩ := hw; exact (R.loadH (v := (str x69)) S rfl (At.mono hA71 hq (by simp)) lay9 rfl)) ?_
                      refine WQ.gyes rfl rfl hb67 ?_
                      refine WQ.val (fun _ _ => (R.mv (v := u12) h28)) ?_
                      refine WQ.gyes rfl rfl hb67 ?_
                      refine WQ.val (fun _ _ => (R.mv (v := (int y_29)) h30)) ?_
                      refine WQ.gyes rfl rfl hb67 ?_
                      obtain ⟨x72, hx72, hg68⟩ := bindE hg68
                      refine WQ.idx (α := Str) R13 rfl rfl el22 hx72 ?_
                      rintro a73 _ hA74 rfl
                      refine WQ.gyes rfl rfl hb67 ?_
                      refine WQ.val (fun w hw => by obtain ⟨_, hq, S⟩ := hw; exact (R.loadH (v := (str x72)) S rfl (At.mono hA74 hq (by simp)) lay9 rfl)) ?_
                      refine WQ.gyes rfl rfl hb67 ?_
                      refine WQ.val (fun _ _ => (R.geqS (a := x69) (b := x72) rfl rfl)) ?_
                      refine WQ.gyes rfl rfl hb65 ?_
                      refine WQ.val (fun _ _ => (R.pickT rfl hb67 rfl)) ?_
                      exact WQ.nil ⟨(congrArg boo (Option.some.inj hg68)), (by repeat (first | refine agree_upd rfl ?_ | refine agree_upds' rfl ?_ | exact agree_refl))⟩
                    · replace hg68 := condF hg68 hb67
                      refine WQ.gno rfl rfl hb67 ?_
                      refine WQ.gno rfl rfl hb67 ?_
                      refine WQ.gno rfl rfl hb67 ?_
                      refine WQ.gno rfl rfl hb67 ?_
                      refine WQ.gno rfl rfl hb67 ?_
                      refine WQ.gno rfl rfl hb67 ?_
                      refine WQ.gno rfl rfl hb67 ?_
                      refine WQ.gno rfl rfl hb67 ?_
                      refine WQ.gno rfl rfl hb67 ?_
                      refine WQ.gno rfl rfl hb67 ?_
                      refine WQ.gyes rfl rfl hb65 ?_
                      refine WQ.val (fun _ _ => (R.pickF rfl hb67 rfl)) ?_
                      exact WQ.nil ⟨(congrArg boo (Option.some.inj hg68)), (by repeat (first | refine agree_upd rfl ?_ | refine agree_upds' rfl ?_ | exact agree_refl))⟩
                  · intro us
                    refine WQ.val (fun _ _ => (R.pickF rfl hb65 rfl)) ?_
                    exact WQ.nil ⟨(congrArg boo (Option.some.inj hg66)), (by repeat (first | refine agree_upd rfl ?_ | refine agree_upds' rfl ?_ | exact agree_refl))⟩
              · intro us
                refine WQ.nil ?_
                intro w40 H41 hle42 S
                have Rp_ppend := Sl.mono Rp_ppend hle42
                have R13 := Sl.mono R13 hle42
                have hA45 := At.mono hA45 hle42 (by simp)
                have hA53 := At.mono hA53 hle42 (by simp)
                rcases condE hy35 with ⟨hc77, hy35⟩ | ⟨hc77, hy35⟩
                · refine WP.condT rfl hc77 ?_
                  refine WP.seq ?_
                  refine WP.region ?_
                  refine WL.valw (R.as (v := (boo false)) rfl) ?_
                  refine WL.nil ?_
                  obtain rfl := Option.some.inj hy35
                  obtain rfl := hy36
                  obtain rfl := Option.some.inj h
                  refine WP.ret (Out.one rfl S rfl ?_)
                  exact rfl
                · refine WP.condF rfl hc77 ?_
                  refine WP.skip ?_
                  refine WP.region ?_
                  refine WL.valw (R.mv (v := (int y_29)) h30) ?_
                  refine WL.valw (R.add rfl rfl) ?_
                  refine WL.valw (R.as (v := (int (wr (y_29 + 1)))) rfl) ?_
                  refine WL.nil ?_
                  obtain rfl := Option.some.inj hy35
                  exact ⟨rfl, ⟨H41, h27, h28, rfl, Rp_ppend, R13, S⟩⟩
          · refine WP.condF rfl hc39 ?_
            refine WP.exit ?_
            obtain rfl := Option.some.inj hy35
            obtain rfl := hy36
            exact ⟨H26, h27, h28, Rp_ppend, R13, S⟩
      · intro f w hM
        rcases r37 with _ | e
        · obtain ⟨H31, h32, h33, Rp_ppend, R13, S⟩ := hM
          refine WP.seq ?_
          refine WP.region ?_
          refine WL.valw (R.mv (v := vp_ppend) h32) ?_
          obtain ⟨r78, hr78, h⟩ := bindE h
          refine W.call S rfl (ref01_All_ok S.holds p_ppend [86, 97, 114, 121] Rp_ppend hr78) ?_
          rintro v79 w80 H81 hle82 S R83
          have Rp_ppend := Sl.mono Rp_ppend hle82
          have R13 := Sl.mono R13 hle82
          refine WL.valw (R.as (v := v79) rfl) ?_
          refine WL.nil ?_
          refine WP.seq ?_
          refine WP.seq ?_
          refine WP.region ?_
          refine WL.valw (R.as (v := (int 0)) rfl) ?_
          refine WL.nil ?_
          obtain ⟨r95, hr96, h⟩ := bindE h
          refine WP.cut (fun f w => match r95 with | .inl _ => ∃ (H89 : Hp), f 3 = u12 ∧ f 6 = v79 ∧ Sl (α := Str) H89 u12 r7.1 ∧ Sl (α := Str) H89 v79 r78 ∧ St w0 H0 w H89 [] | .inr _ => False) ?_ ?_
          · refine WP.block ?_
            refine WP.loopM (law19_VarySorted_L2 r7 r78) (fun s f w => match s with | y_87 => ∃ (H84 : Hp), f 3 = u12 ∧ f 6 = v79 ∧ f 7 = (int y_87) ∧ Sl (α := Str) H84 u12 r7.1 ∧ Sl (α := Str) H84 v79 r78 ∧ St w0 H0 w H84 []) 0 r95 hr96 ?_ ?_
            · exact ⟨H81, h33, rfl, rfl, R13, R83, S⟩
            · intro y_87 f w hI y92 hy93 hy94
              obtain ⟨H84, h85, h86, h88, R13, R83, S⟩ := hI
              refine WP.seq ?_
              refine WP.seq ?_
              refine WP.region ?_
              refine WL.valw (R.mv (v := (int y_87)) h88) ?_
              refine WL.valw (R.mv (v := v79) h86) ?_
              refine WL.valw (R.lenL (α := Str) (xs := r78) (H := H84) R83 rfl Tryd.underlying22) ?_
              refine WL.valw (R.lss rfl rfl) ?_
              refine WL.nil ?_
              rcases condE hy93 with ⟨hc97, hy93⟩ | ⟨hc97, hy93⟩
              · refine WP.condT rfl hc97 ?_
                refine WP.skip ?_
                refine WP.seq ?_
                refine WP.block ?_
                refine WP.seq ?_
                refine WP.region ?_
                refine WL.valw (R.as (v := (boo false)) rfl) ?_
                refine WL.nil ?_
                refine WP.seq ?_
                refine WP.seq ?_
                refine WP.region ?_
                refine WL.valw (R.as (v := (int 0)) rfl) ?_
                refine WL.nil ?_
                obtain ⟨y_110, hr116, hy93⟩ := bindE hy93
                refine WP.cut (fun f w => ∃ (H106 : Hp), f 3 = u12 ∧ f 6 = v79 ∧ f 7 = (int y_87) ∧ f 8 = (boo y_110) ∧ Sl (α := Str) H106 u12 r7.1 ∧ Sl (α := Str) H106 v79 r78 ∧ St w0 H0 w H106 []) ?_ ?_
                · refine WP.block ?_
                  refine WP.loopM (law19_VarySorted_L1 r7 r78 y_87) (fun s f w => match s with | (y_102, y_104) => ∃ (H98 : Hp), f 3 = u12 ∧ f 6 = v79 ∧ f 7 = (int y_87) ∧ f 8 = (boo y_102) ∧ f 9 = (int y_104) ∧ Sl (α := Str) H98 u12 r7.1 ∧ Sl (α := Str) H98 v79 r78 ∧ St w0 H0 w H98 []) (false, 0) y_110 hr116 ?_ ?_
                  · exact ⟨H84, h85, h86, h88, rfl, rfl, R13, R83, S⟩
                  · intro s f w hI y112 hy113 hy114
                    obtain ⟨y_102, y_104⟩ := s
                    obtain ⟨H98, h99, h100, h101, h103, h105, R13, R83, S⟩ := hI
                    refine WP.seq ?_
                    refine WP.seq ?_
                    refine WP.region ?_
                    refine WL.valw (R.mv (v := (int y_104)) h105) ?_
                    refine WL.valw (R.mv (v := u12) h99) ?_
                    refine WL.valw (R.lenL (α := Str) (xs := r7.1) (H := H98) R13 rfl Tryd.underlying22) ?_
                    refine WL.valw (R.lss rfl rfl) ?_
                    refine WL.nil ?_
                    rcases condE hy113 with ⟨hc117, hy113⟩ | ⟨hc117, hy113⟩
                    · refine WP.condT rfl hc117 ?_
                      refine WP.skip ?_
                      refine WP.seq ?_
                      refine WP.block ?_
                      refine WP.quiet S (by kernel_rfl) (by kernel_rfl) ?_
                      refine WQ.val (fun _ _ => (R.mv (v := (boo y_102)) h103)) ?_
                      refine WQ.val (fun _ _ => (R.mv (v := (boo y_102)) rfl)) ?_
                      obtain ⟨b134, hg122, hy113⟩ := bindE hy113
                      refine WQ.grp 10 [82, 83, 84, 85, 86, 87, 88, 89, 90] 91 (boo b134) ?_ ?_
                      · rcases boolE y_102 with hb121 | hb121
                        · replace hg122 := condT hg122 hb121
                          refine WQ.gno rfl rfl hb121 ?_
                          refine WQ.gno rfl rfl hb121 ?_
                          refine WQ.gno rfl rfl hb121 ?_
                          refine WQ.gno rfl rfl hb121 ?_
                          refine WQ.gno rfl rfl hb121 ?_
                          refine WQ.gno rfl rfl hb121 ?_
                          refine WQ.gno rfl rfl hb121 ?_
                          refine WQ.gno rfl rfl hb121 ?_
                          refine WQ.gno rfl rfl hb121 ?_
                          refine WQ.val (fun _ _ => (R.pickT rfl hb121 rfl)) ?_
                          exact WQ.nil ⟨(congrArg boo (Option.some.inj hg122)), (by repeat (first | refine agree_upd rfl ?_ | refine agree_upds' rfl ?_ | exact agree_refl))⟩
                        · replace hg122 := condF hg122 hb121
                          refine WQ.gyes rfl rfl hb121 ?_
                          refine WQ.val (fun _ _ => (R.mv (v := v79) h100)) ?_
                          refine WQ.gyes rfl rfl hb121 ?_
                          refine WQ.val (fun _ _ => (R.mv (v := (int y_87)) h101)) ?_
                          refine WQ.gyes rfl rfl hb121 ?_
                          obtain ⟨x123, hx123, hg122⟩ := bindE hg122
                          refine WQ.idx (α := Str) R83 rfl rfl el22 hx123 ?_
                          rintro a124 _ hA125 rfl
                          refine WQ.gyes rfl rfl hb121 ?_
                          refine WQ.val (fun w hw => by obtain ⟨_, hq, S⟩ := hw; exact (R.loadH (v := (str x123)) S rfl (At.mono hA125 hq (by simp)) lay9 rfl)) ?_
                          refine WQ.gyes rfl rfl hb121 ?_
                          refine WQ.val (fun _ _ => (R.mv (v := u12) h99)) ?_
                          refine WQ.gyes rfl rfl hb121 ?_
                          refine WQ.val (fun _ _ => (R.mv (v := (int y_104)) h105)) ?_
                          refine WQ.gyes rfl rfl hb121 ?_
                          obtain ⟨x126, hx126, hg122⟩ := bindE hg122
                          refine WQ.idx (α := Str) R13 rfl rfl el22 hx126 ?_
                          rintro a127 _ hA128 rfl
                          refine WQ.gyes rfl rfl hb121 ?_
                          refine WQ.val (fun w hw => by obtain ⟨_, hq, S⟩ := hw; exact (R.loadH (v := (str x126)) S rfl (At.mono hA128 hq (by simp)) lay9 rfl)) ?_
                          refine WQ.gyes rfl rfl hb121 ?_
                          obtain ⟨r129, hr129, hg122⟩ := bindE hg122
                          refine WQ.call (v := (boo r129)) rfl (fun w H' hq S => ref01_Fold_ok S.holds x123 x126 hr129) ?_
                          refine WQ.val (fun _ _ => (R.pickF rfl hb121 rfl)) ?_
                          exact WQ.nil ⟨(congrArg boo (Option.some.inj hg122)), (by repeat (first | refine agree_upd rfl ?_ | refine agree_upds' rfl ?_ | exact agree_refl))⟩
                      · intro us
                        refine WQ.val (fun _ _ => (R.as (v := (boo b134)) rfl)) ?_
                        refine WQ.nil ?_
                        intro w118 H119 hle120 S
                        have R13 := Sl.mono R13 hle120
                        have R83 := Sl.mono R83 hle120
                        refine WP.region ?_
                        refine WL.valw (R.mv (v := (int y_104)) h105) ?_
                        refine WL.valw (R.add rfl rfl) ?_
                        refine WL.valw (R.as (v := (int (wr (y_104 + 1)))) rfl) ?_
                        refine WL.nil ?_
                        obtain rfl := Option.some.inj hy113
                        exact ⟨rfl, ⟨H119, h99, h100, h101, rfl, rfl, R13, R83, S⟩⟩
                    · refine WP.condF rfl hc117 ?_
                      refine WP.exit ?_
                      obtain rfl := Option.some.inj hy113
                      obtain rfl := hy114
                      exact ⟨H98, h99, h100, h101, h103, R13, R83, S⟩
                · rintro f w ⟨H106, h107, h108, h109, h111, R13, R83, S⟩
                  refine WP.seq ?_
                  refine WP.region ?_
                  refine WL.valw (R.mv (v := (boo y_110)) h111) ?_
                  refine WL.valw (R.not rfl) ?_
                  refine WL.nil ?_
                  rcases condE hy93 with ⟨hc135, hy93⟩ | ⟨hc135, hy93⟩
                  · refine WP.condT rfl hc135 ?_
                    refine WP.seq ?_
                    refine WP.region ?_
                    refine WL.valw (R.as (v := (boo false)) rfl) ?_
                    refine WL.nil ?_
                    obtain rfl := Option.some.inj hy93
                    obtain rfl := hy94
                    obtain rfl := Option.some.inj h
                    refine WP.ret (Out.one rfl S rfl ?_)
                    exact rfl
                  · refine WP.condF rfl hc135 ?_
                    refine WP.skip ?_
                    refine WP.region ?_
                    refine WL.valw (R.mv (v := (int y_87)) h109) ?_
                    refine WL.valw (R.add rfl rfl) ?_
                    refine WL.valw (R.as (v := (int (wr (y_87 + 1)))) rfl) ?_
                    refine WL.nil ?_
                    obtain rfl := Option.some.inj hy93
                    exact ⟨rfl, ⟨H106, h107, h108, rfl, R13, R83, S⟩⟩
              · refine WP.condF rfl hc97 ?_
                refine WP.exit ?_
                obtain rfl := Option.some.inj hy93
                obtain rfl := hy94
                exact ⟨H84, h85, h86, R13, R83, S⟩
          · intro f w hM
            rcases r95 with _ | e
            · obtain ⟨H89, h90, h91, R13, R83, S⟩ := hM
              refine WP.seq ?_
              refine WP.region ?_
              refine WL.valw (R.mv (v := u12) h90) ?_
              refine WL.valw (R.lenL (α := Str) (xs := r7.1) (H := H89) R13 rfl Tryd.underlying22) ?_
              refine WL.valw (R.mv (v := v79) h91) ?_
              refine WL.valw (R.lenL (α := Str) (xs := r78) (H := H89) R83 rfl Tryd.underlying22) ?_
              refine WL.valw (R.leq rfl rfl) ?_
              refine WL.valw (R.mv (v := (boo (decide ((r7.1.length : Int) ≤ (r78.length : Int))))) rfl) ?_
              obtain ⟨b143, hg137, h⟩ := bindE h
              refine WL.grpw 2 [100] 101 (boo b143) (fun w => ∃ H' : Hp, H89.le H' ∧ St w0 H0 w H' []) ?_ ?_
              · rcases boolE (decide ((r7.1.length : Int) ≤ (r78.length : Int))) with hb136 | hb136
                · replace hg137 := condT hg137 hb136
                  refine WL.gyes rfl rfl hb136 ?_
                  obtain ⟨r138, hr138, hg137⟩ := bindE hg137
                  refine W.call S rfl (law19_awake_ok S.holds  hr138) ?_
                  rintro v139 w140 H141 hle142 S rfl
                  have R13 := Sl.mono R13 hle142
                  have R83 := Sl.mono R83 hle142
                  refine WL.valw (R.pickT rfl hb136 rfl) ?_
                  exact WL.nil ⟨(congrArg boo (Option.some.inj hg137)), (by repeat (first | refine agree_upd rfl ?_ | refine agree_upds' rfl ?_ | exact agree_refl)), ⟨H141, hle142, S⟩⟩
                · replace hg137 := condF hg137 hb136
                  refine WL.gno rfl rfl hb136 ?_
                  refine WL.valw (R.pickF rfl hb136 rfl) ?_
                  exact WL.nil ⟨(congrArg boo (Option.some.inj hg137)), (by repeat (first | refine agree_upd rfl ?_ | refine agree_upds' rfl ?_ | exact agree_refl)), ⟨H89, (Hp.le.refl _), S⟩⟩
              · intro us w145 ⟨H144, hle146, S⟩
                have R13 := Sl.mono R13 hle146
                have R83 := Sl.mono R83 hle146
                refine WL.valw (R.as (v := (boo b143)) rfl) ?_
                refine WL.nil ?_
                obtain rfl := Option.some.inj h
                refine WP.ret (Out.one rfl S rfl ?_)
                exact rfl
            · exact hM.elim
        · exact hM.elim
set_option maxRecDepth 10000 in
set_option maxHeartbeats 4000000 in
theorem keep_Keys_ok {w0 : World} {H0 : Hp} (hw : Holds w0 H0) (p_l : (List (List Str))) {vp_l : Value} (Rp_l : Sl (α := (List Str)) H0 vp_l p_l) {r : Bool} (h : keep_Keys p_l = some r) :
    Con Tryd.prog 51 [vp_l] w0 H0 (fun H' v => v = (boo r)) := by
  refine Con.mk (N := 23) Tryd.func51 rfl rfl (by kernel_rfl) rfl ?_
  have S := St.start hw
  refine WP.seq ?_
  refine WP.region ?_
  refine WL.valw (R.as (v := (boo false)) rfl) ?_
  refine WL.nil ?_
  refine WP.seq ?_
  refine WP.seq ?_
  refine WP.region ?_
  refine WL.valw (R.as (v := (int 0)) rfl) ?_
  refine WL.nil ?_
  obtain ⟨r10, hr11, h⟩ := bindE h
  refine WP.cut (fun f w => match r10 with | .inl _ => ∃ (H5 : Hp), f 0 = vp_l ∧ Sl (α := (List Str)) H5 vp_l p_l ∧ St w0 H0 w H5 [] | .inr _ => False) ?_ ?_
  · refine WP.block ?_
    refine WP.loopM (keep_Keys_L0 p_l) (fun s f w => match s with | i_3 => ∃ (H1 : Hp), f 0 = vp_l ∧ f 3 = (int i_3) ∧ Sl (α := (List Str)) H1 vp_l p_l ∧ St w0 H0 w H1 []) 0 r10 hr11 ?_ ?_
    · exact ⟨H0, rfl, rfl, Rp_l, S⟩
    · intro i_3 f w hI y7 hy8 hy9
      obtain ⟨H1, h2, h4, Rp_l, S⟩ := hI
      refine WP.seq ?_
      refine WP.seq ?_
      refine WP.region ?_
      refine WL.valw (R.mv (v := (int i_3)) h4) ?_
      refine WL.valw (R.mv (v := vp_l) h2) ?_
      refine WL.valw (R.lenL (α := (List Str)) (xs := p_l) (H := H1) Rp_l rfl Tryd.underlying39) ?_
      refine WL.valw (R.lss rfl rfl) ?_
      refine WL.valw (R.mv (v := (boo (decide (i_3 < (p_l.length : Int))))) rfl) ?_
      refine WL.grp 3 [9, 10] 11 (boo ((decide (i_3 < (p_l.length : Int))) && (decide (i_3 < 11)))) ?_ ?_
      · rcases boolE (decide (i_3 < (p_l.length : Int))) with hb12 | hb12
        · refine WL.gyes rfl rfl hb12 ?_
          refine WL.valw (R.mv (v := (int i_3)) h4) ?_
          refine WL.gyes rfl rfl hb12 ?_
          refine WL.valw (R.lss rfl rfl) ?_
          refine WL.valw (R.pickT rfl hb12 rfl) ?_
          exact WL.nil ⟨(andT hb12), (by repeat (first | refine agree_upd rfl ?_ | refine agree_upds' rfl ?_ | exact agree_refl)), rfl⟩
        · refine WL.gno rfl rfl hb12 ?_
          refine WL.gno rfl rfl hb12 ?_
          refine WL.valw (R.pickF rfl hb12 rfl) ?_
          exact WL.nil ⟨(andF hb12), (by repeat (first | refine agree_upd rfl ?_ | refine agree_upds' rfl ?_ | exact agree_refl)), rfl⟩
      · intro us
        refine WL.nil ?_
        rcases condE hy8 with ⟨hc14, hy8⟩ | ⟨hc14, hy8⟩
        · refine WP.condT rfl hc14 ?_
          refine WP.skip ?_
          refine WP.seq ?_
          refine WP.block ?_
          refine WP.seq ?_
          refine WP.region ?_
          refine WL.valw (R.mv (v := vp_l) h2) ?_
          refine WL.valw (R.mv (v := (int i_3)) h4) ?_
          obtain ⟨x15, hx15, hy8⟩ := bindE hy8
          refine W.idx (α := (List Str)) Rp_l rfl rfl el39 hx15 ?_
          rintro a16 _ hA17 ⟨v18, rfl, R19⟩
          refine WL.valw (R.loadH (v := v18) S rfl hA17 lay22 rfl) ?_
          obtain ⟨r20, hr20, hy8⟩ := bindE hy8
          refine W.call S rfl (keep_Strings_ok S.holds x15 R19 hr20) ?_
          rintro v21 w22 H23 hle24 S rfl
          have Rp_l := Sl.mono Rp_l hle24
          have hA17 := At.mono hA17 hle24 (by simp)
          have R19 := Sl.mono R19 hle24
          refine WL.valw (R.not rfl) ?_
          refine WL.nil ?_
          rcases condE hy8 with ⟨hc25, hy8⟩ | ⟨hc25, hy8⟩
          · refine WP.condT rfl hc25 ?_
            refine WP.seq ?_
            refine WP.region ?_
            refine WL.valw (R.as (v := (boo false)) rfl) ?_
            refine WL.nil ?_
            obtain rfl := Option.some.inj hy8
            obtain rfl := hy9
            obtain rfl := Option.some.inj h
            refine WP.ret (Out.one rfl S rfl ?_)
            exact rfl
          · refine WP.condF rfl hc25 ?_
            refine WP.skip ?_
            refine WP.region ?_
            refine WL.valw (R.mv (v := (int i_3)) h4) ?_
            refine WL.valw (R.add rfl rfl) ?_
            refine WL.valw (R.as (v := (int (wr (i_3 + 1)))) rfl) ?_
            refine WL.nil ?_
            obtain rfl := Option.some.inj hy8
            exact ⟨rfl, ⟨H23, h2, rfl, Rp_l, S⟩⟩
        · refine WP.condF rfl hc14 ?_
          refine WP.exit ?_
          obtain rfl := Option.some.inj hy8
          obtain rfl := hy9
          exact ⟨H1, h2, Rp_l, S⟩
  · intro f w hM
    rcases r10 with _ | e
    · obtain ⟨H5, h6, Rp_l, S⟩ := hM
      refine WP.seq ?_
      refine WP.region ?_
      refine WL.valw (R.mv (v := vp_l) h6) ?_
      refine WL.valw (R.lenL (α := (List Str)) (xs := p_l) (H := H5) Rp_l rfl Tryd.underlying39) ?_
      refine WL.valw (R.leq rfl rfl) ?_
      refine WL.valw (R.as (v := (boo (decide ((p_l.length : Int) ≤ 10)))) rfl) ?_
      refine WL.nil ?_
      obtain rfl := Option.some.inj h
      refine WP.ret (Out.one rfl S rfl ?_)
      exact rfl
    · exact hM.elim
set_option maxRecDepth 10000 in
set_option maxHeartbeats 4000000 in
theorem keep_Entry_ok {w0 : World} {H0 : Hp} (hw : Holds w0 H0) (p_e : GEntry) {vp_e0 : Value} {vp_e1 : Value} {vp_e2 : Value} {vp_e4 : Value} (Rp_e0 : Sl (α := (List Str)) H0 vp_e0 p_e.fKeys) (Rp_e1 : Sl (α := Str) H0 vp_e1 p_e.fVary) (Rp_e2 : Sl (α := Str) H0 vp_e2 p_e.fSnapshot) (Rp_e4 : Sl (α := GField) H0 vp_e4 p_e.fFields) {r : Bool} (h : keep_Entry p_e = some r) :
    Con Tryd.prog 25 [(agg [vp_e0, vp_e1, vp_e2, (str p_e.fReason), vp_e4, (str p_e.fBody), (int p_e.fRequested), (int p_e.fReceived)])] w0 H0 (fun H' v => v = (boo r)) := by
  refine Con.mk (N := 33) Tryd.func25 rfl rfl (by kernel_rfl) rfl ?_
  have S := St.start hw
  refine WP.seq ?_
  refine WP.region ?_
  refine W.box [vp_e0, vp_e1, vp_e2, (str p_e.fReason), vp_e4, (str p_e.fBody), (int p_e.fRequested), (int p_e.fReceived)] S rfl rfl ?_
  intro b1 w2 S
  refine WL.valw (R.as (v := (boo false)) rfl) ?_
  refine WL.nil ?_
  refine WP.seq ?_
  refine WP.region ?_
  refine WL.valw (R.fieldB rfl fld41_0) ?_
  refine WL.valw (R.loadB (i := 0) (v := vp_e0) S rfl rfl lay39 rfl) ?_
  obtain ⟨r3, hr3, h⟩ := bindE h
  refine W.call S rfl (keep_Keys_ok S.holds p_e.fKeys Rp_e0 hr3) ?_
  rintro v4 w5 H6 hle7 S rfl
  have Rp_e0 := Sl.mono Rp_e0 hle7
  have Rp_e1 := Sl.mono Rp_e1 hle7
  have Rp_e2 := Sl.mono Rp_e2 hle7
  have Rp_e4 := Sl.mono Rp_e4 hle7
  refine WL.valw (R.mv (v := (boo r3)) rfl) ?_
  obtain ⟨b15, hg9, h⟩ := bindE h
  refine WL.grpw 4 [7, 8, 9] 10 (boo b15) (fun w => ∃ H' : Hp, H6.le H' ∧ St w0 H0 w H' [.box b1 41 [vp_e0, vp_e1, vp_e2, (str p_e.fReason), vp_e4, (str p_e.fBody), (int p_e.fRequested), (int p_e.fReceived)]]) ?_ ?_
  · rcases boolE r3 with hb8 | hb8
    · replace hg9 := condT hg9 hb8
      refine WL.gyes rfl rfl hb8 ?_
      refine WL.valw (R.fieldB rfl fld41_1) ?_
      refine WL.gyes rfl rfl hb8 ?_
      refine WL.valw (R.loadB (i := 0) (v := vp_e1) S rfl rfl lay22 rfl) ?_
      refine WL.gyes rfl rfl hb8 ?_
      obtain ⟨r10, hr10, hg9⟩ := bindE hg9
      refine W.call S rfl (keep_Strings_ok S.holds p_e.fVary Rp_e1 hr10) ?_
      rintro v11 w12 H13 hle14 S rfl
      have Rp_e0 := Sl.mono Rp_e0 hle14
      have Rp_e1 := Sl.mono Rp_e1 hle14
      have Rp_e2 := Sl.mono Rp_e2 hle14
      have Rp_e4 := Sl.mono Rp_e4 hle14
      refine WL.valw (R.pickT rfl hb8 rfl) ?_
      exact WL.nil ⟨(congrArg boo (Option.some.inj hg9)), (by repeat (first | refine agree_upd rfl ?_ | refine agree_upds' rfl ?_ | exact agree_refl)), ⟨H13, hle14, S⟩⟩
    · replace hg9 := condF hg9 hb8
      refine WL.gno rfl rfl hb8 ?_
      refine WL.gno rfl rfl hb8 ?_
      refine WL.gno rfl rfl hb8 ?_
      refine WL.valw (R.pickF rfl hb8 rfl) ?_
      exact WL.nil ⟨(congrArg boo (Option.some.inj hg9)), (by repeat (first | refine agree_upd rfl ?_ | refine agree_upds' rfl ?_ | exact agree_refl)), ⟨H6, (Hp.le.refl _), S⟩⟩
  · intro us w17 ⟨H16, hle18, S⟩
    have Rp_e0 := Sl.mono Rp_e0 hle18
    have Rp_e1 := Sl.mono Rp_e1 hle18
    have Rp_e2 := Sl.mono Rp_e2 hle18
    have Rp_e4 := Sl.mono Rp_e4 hle18
    refine WL.valw (R.mv (v := (boo b15)) rfl) ?_
    obtain ⟨b26, hg20, h⟩ := bindE h
    refine WL.grpw 4 [12, 13, 14] 15 (boo b26) (fun w => ∃ H' : Hp, H16.le H' ∧ St w0 H0 w H' [.box b1 41 [vp_e0, vp_e1, vp_e2, (str p_e.fReason), vp_e4, (str p_e.fBody), (int p_e.fRequested), (int p_e.fReceived)]]) ?_ ?_
    · rcases boolE b15 with hb19 | hb19
      · replace hg20 := condT hg20 hb19
        refine WL.gyes rfl rfl hb19 ?_
        refine WL.valw (R.fieldB rfl fld41_2) ?_
        refine WL.gyes rfl rfl hb19 ?_
        refine WL.valw (R.loadB (i := 0) (v := vp_e2) S rfl rfl lay22 rfl) ?_
        refine WL.gyes rfl rfl hb19 ?_
        obtain ⟨r21, hr21, hg20⟩ := bindE hg20
        refine W.call S rfl (keep_Strings_ok S.holds p_e.fSnapshot Rp_e2 hr21) ?_
        rintro v22 w23 H24 hle25 S rfl
        have Rp_e0 := Sl.mono Rp_e0 hle25
        have Rp_e1 := Sl.mono Rp_e1 hle25
        have Rp_e2 := Sl.mono Rp_e2 hle25
        have Rp_e4 := Sl.mono Rp_e4 hle25
        refine WL.valw (R.pickT rfl hb19 rfl) ?_
        exact WL.nil ⟨(congrArg boo (Option.some.inj hg20)), (by repeat (first | refine agree_upd rfl ?_ | refine agree_upds' rfl ?_ | exact agree_refl)), ⟨H24, hle25, S⟩⟩
      · replace hg20 := condF hg20 hb19
        refine WL.gno rfl rfl hb19 ?_
        refine WL.gno rfl rfl hb19 ?_
        refine WL.gno rfl rfl hb19 ?_
        refine WL.valw (R.pickF rfl hb19 rfl) ?_
        exact WL.nil ⟨(congrArg boo (Option.some.inj hg20)), (by repeat (first | refine agree_upd rfl ?_ | refine agree_upds' rfl ?_ | exact agree_refl)), ⟨H16, (Hp.le.refl _), S⟩⟩
    · intro us w28 ⟨H27, hle29, S⟩
      have Rp_e0 := Sl.mono Rp_e0 hle29
      have Rp_e1 := Sl.mono Rp_e1 hle29
      have Rp_e2 := Sl.mono Rp_e2 hle29
      have Rp_e4 := Sl.mono Rp_e4 hle29
      refine WL.valw (R.mv (v := (boo b26)) rfl) ?_
      refine WL.grp 5 [17, 18, 19, 20] 21 (boo (b26 && (decide ((p_e.fReason.length : Int) ≤ 100)))) ?_ ?_
      · rcases boolE b26 with hb30 | hb30
        · refine WL.gyes rfl rfl hb30 ?_
          refine WL.valw (R.fieldB rfl fld41_3) ?_
          refine WL.gyes rfl rfl hb30 ?_
          refine WL.valw (R.loadB (i := 0) (v := (str p_e.fReason)) S rfl rfl lay9 rfl) ?_
          refine WL.gyes rfl rfl hb30 ?_
          refine WL.valw (R.lenS (a := p_e.fReason) rfl Tryd.underlying9) ?_
          refine WL.gyes rfl rfl hb30 ?_
          refine WL.valw (R.leq rfl rfl) ?_
          refine WL.valw (R.pickT rfl hb30 rfl) ?_
          exact WL.nil ⟨(andT hb30), (by repeat (first | refine agree_upd rfl ?_ | refine agree_upds' rfl ?_ | exact agree_refl)), rfl⟩
        · refine WL.gno rfl rfl hb30 ?_
          refine WL.gno rfl rfl hb30 ?_
          refine WL.gno rfl rfl hb30 ?_
          refine WL.gno rfl rfl hb30 ?_
          refine WL.valw (R.pickF rfl hb30 rfl) ?_
          exact WL.nil ⟨(andF hb30), (by repeat (first | refine agree_upd rfl ?_ | refine agree_upds' rfl ?_ | exact agree_refl)), rfl⟩
      · intro us
        refine WL.valw (R.mv (v := (boo (b26 && (decide ((p_e.fReason.length : Int) ≤ 100))))) rfl) ?_
        refine WL.grp 5 [23, 24, 25, 26] 27 (boo ((b26 && (decide ((p_e.fReason.length : Int) ≤ 100))) && (decide ((p_e.fBody.length : Int) ≤ 2000)))) ?_ ?_
        · rcases boolE (b26 && (decide ((p_e.fReason.length : Int) ≤ 100))) with hb32 | hb32
          · refine WL.gyes rfl rfl hb32 ?_
            refine WL.valw (R.fieldB rfl fld41_5) ?_
            refine WL.gyes rfl rfl hb32 ?_
            refine WL.valw (R.loadB (i := 0) (v := (str p_e.fBody)) S rfl rfl lay9 rfl) ?_
            refine WL.gyes rfl rfl hb32 ?_
            refine WL.valw (R.lenS (a := p_e.fBody) rfl Tryd.underlying9) ?_
            refine WL.gyes rfl rfl hb32 ?_
            refine WL.valw (R.leq rfl rfl) ?_
            refine WL.valw (R.pickT rfl hb32 rfl) ?_
            exact WL.nil ⟨(andT hb32), (by repeat (first | refine agree_upd rfl ?_ | refine agree_upds' rfl ?_ | exact agree_refl)), rfl⟩
          · refine WL.gno rfl rfl hb32 ?_
            refine WL.gno rfl rfl hb32 ?_
            refine WL.gno rfl rfl hb32 ?_
            refine WL.gno rfl rfl hb32 ?_
            refine WL.valw (R.pickF rfl hb32 rfl) ?_
            exact WL.nil ⟨(andF hb32), (by repeat (first | refine agree_upd rfl ?_ | refine agree_upds' rfl ?_ | exact agree_refl)), rfl⟩
        · intro us
          refine WL.valw (R.mv (v := (boo ((b26 && (decide ((p_e.fReason.length : Int) ≤ 100))) && (decide ((p_e.fBody.length : Int) ≤ 2000))))) rfl) ?_
          obtain ⟨b41, hg35, h⟩ := bindE h
          refine WL.grpw 4 [29, 30, 31] 32 (boo b41) (fun w => ∃ H' : Hp, H27.le H' ∧ St w0 H0 w H' [.box b1 41 [vp_e0, vp_e1, vp_e2, (str p_e.fReason), vp_e4, (str p_e.fBody), (int p_e.fRequested), (int p_e.fReceived)]]) ?_ ?_
          · rcases boolE ((b26 && (decide ((p_e.fReason.length : Int) ≤ 100))) && (decide ((p_e.fBody.length : Int) ≤ 2000))) with hb34 | hb34
            · replace hg35 := condT hg35 hb34
              refine WL.gyes rfl rfl hb34 ?_
              refine WL.valw (R.fieldB rfl fld41_4) ?_
              refine WL.gyes rfl rfl hb34 ?_
              refine WL.valw (R.loadB (i := 0) (v := vp_e4) S rfl rfl lay23 rfl) ?_
              refine WL.gyes rfl rfl hb34 ?_
              obtain ⟨r36, hr36, hg35⟩ := bindE hg35
              refine W.call S rfl (keep_Fields_ok S.holds p_e.fFields Rp_e4 hr36) ?_
              rintro v37 w38 H39 hle40 S rfl
              have Rp_e0 := Sl.mono Rp_e0 hle40
              have Rp_e1 := Sl.mono Rp_e1 hle40
              have Rp_e2 := Sl.mono Rp_e2 hle40
              have Rp_e4 := Sl.mono Rp_e4 hle40
              refine WL.valw (R.pickT rfl hb34 rfl) ?_
              exact WL.nil ⟨(congrArg boo (Option.some.inj hg35)), (by repeat (first | refine agree_upd rfl ?_ | refine agree_upds' rfl ?_ | exact agree_refl)), ⟨H39, hle40, S⟩⟩
            · replace hg35 := condF hg35 hb34
              refine WL.gno rfl rfl hb34 ?_
              refine WL.gno rfl rfl hb34 ?_
              refine WL.gno rfl rfl hb34 ?_
              refine WL.valw (R.pickF rfl hb34 rfl) ?_
              exact WL.nil ⟨(congrArg boo (Option.some.inj hg35)), (by repeat (first | refine agree_upd rfl ?_ | refine agree_upds' rfl ?_ | exact agree_refl)), ⟨H27, (Hp.le.refl _), S⟩⟩
          · intro us w43 ⟨H42, hle44, S⟩
            have Rp_e0 := Sl.mono Rp_e0 hle44
            have Rp_e1 := Sl.mono Rp_e1 hle44
            have Rp_e2 := Sl.mono Rp_e2 hle44
            have Rp_e4 := Sl.mono Rp_e4 hle44
            refine WL.valw (R.as (v := (boo b41)) rfl) ?_
            refine WL.nil ?_
            obtain rfl := Option.some.inj h
            refine WP.ret (Out.one rfl S rfl ?_)
            exact rfl
end Go.Proofs
