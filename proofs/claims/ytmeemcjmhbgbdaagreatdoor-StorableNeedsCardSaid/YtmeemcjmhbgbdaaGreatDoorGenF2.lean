/- A part of the proof of laws of the seat: written by program over the translation. -/
import Derived.Test.YtmeemcjmhbgbdaaGreatDoorGenF1
namespace Go.Proofs
open Go.Eng Go.Eng.Pure
set_option linter.unusedVariables false
set_option maxRecDepth 10000 in
set_option maxHeartbeats 4000000 in
theorem ascii_part_ok {w0 : World} {H0 : Hp} (hw : Holds w0 H0) (p_c : UInt8) {r : Bool} (h : ascii_part p_c = some r) :
    Con Tryz.prog 65 [(byt p_c)] w0 H0 (fun H' v => v = (boo r)) := by
  refine Con.mk (N := 42) Tryz.func65 rfl rfl (by kernel_rfl) rfl ?_
  have S := St.start hw
  refine WP.seq ?_
  refine WP.region ?_
  refine WL.valw (R.as (v := (boo false)) rfl) ?_
  refine WL.nil ?_
  refine WP.seq ?_
  refine WP.seq ?_
  refine WP.region ?_
  refine WL.valw (R.mv (v := (byt p_c)) rfl) ?_
  refine WL.nil ?_
  obtain ⟨j4, hj3, h⟩ := bindE h
  refine WP.cut (fun f w => match j4 with | .inl _ => ∃ (H1 : Hp), f 0 = (byt p_c) ∧ St w0 H0 w H1 [] | .inr _ => False) ?_ ?_
  · refine WP.block ?_
    refine WP.seq ?_
    refine WP.seq ?_
    refine WP.region ?_
    refine WL.valw (R.eql8 (a := p_c) (b := 33) rfl rfl) ?_
    refine WL.valw (R.as (v := (boo (p_c == 33))) rfl) ?_
    refine WL.nil ?_
    obtain ⟨y_7, hj9, hj3⟩ := bindE hj3
    refine WP.cut (fun f w => ∃ (H5 : Hp), f 0 = (byt p_c) ∧ f 4 = (boo y_7) ∧ St w0 H0 w H5 []) ?_ ?_
    · rcases condE hj9 with ⟨hc11, hj9⟩ | ⟨hc11, hj9⟩
      · refine WP.condT rfl hc11 ?_
        refine WP.skip ?_
        obtain rfl := Option.some.inj hj9
        exact ⟨H0, rfl, rfl, S⟩
      · refine WP.condF rfl hc11 ?_
        refine WP.seq ?_
        refine WP.region ?_
        refine WL.valw (R.eql8 (a := p_c) (b := 35) rfl rfl) ?_
        refine WL.valw (R.as (v := (boo (p_c == 35))) rfl) ?_
        refine WL.nil ?_
        rcases condE hj9 with ⟨hc12, hj9⟩ | ⟨hc12, hj9⟩
        · refine WP.condT rfl hc12 ?_
          refine WP.skip ?_
          obtain rfl := Option.some.inj hj9
          exact ⟨H0, rfl, rfl, S⟩
        · refine WP.condF rfl hc12 ?_
          refine WP.seq ?_
          refine WP.region ?_
          refine WL.valw (R.eql8 (a := p_c) (b := 36) rfl rfl) ?_
          refine WL.valw (R.as (v := (boo (p_c == 36))) rfl) ?_
          refine WL.nil ?_
          rcases condE hj9 with ⟨hc13, hj9⟩ | ⟨hc13, hj9⟩
          · refine WP.condT rfl hc13 ?_
            refine WP.skip ?_
            obtain rfl := Option.some.inj hj9
            exact ⟨H0, rfl, rfl, S⟩
          · refine WP.condF rfl hc13 ?_
            refine WP.seq ?_
            refine WP.region ?_
            refine WL.valw (R.eql8 (a := p_c) (b := 37) rfl rfl) ?_
            refine WL.valw (R.as (v := (boo (p_c == 37))) rfl) ?_
            refine WL.nil ?_
            rcases condE hj9 with ⟨hc14, hj9⟩ | ⟨hc14, hj9⟩
            · refine WP.condT rfl hc14 ?_
              refine WP.skip ?_
              obtain rfl := Option.some.inj hj9
              exact ⟨H0, rfl, rfl, S⟩
            · refine WP.condF rfl hc14 ?_
              refine WP.seq ?_
              refine WP.region ?_
              refine WL.valw (R.eql8 (a := p_c) (b := 38) rfl rfl) ?_
              refine WL.valw (R.as (v := (boo (p_c == 38))) rfl) ?_
              refine WL.nil ?_
              rcases condE hj9 with ⟨hc15, hj9⟩ | ⟨hc15, hj9⟩
              · refine WP.condT rfl hc15 ?_
                refine WP.skip ?_
                obtain rfl := Option.some.inj hj9
                exact ⟨H0, rfl, rfl, S⟩
              · refine WP.condF rfl hc15 ?_
                refine WP.seq ?_
                refine WP.region ?_
                refine WL.valw (R.eql8 (a := p_c) (b := 39) rfl rfl) ?_
                refine WL.valw (R.as (v := (boo (p_c == 39))) rfl) ?_
                refine WL.nil ?_
                rcases condE hj9 with ⟨hc16, hj9⟩ | ⟨hc16, hj9⟩
                · refine WP.condT rfl hc16 ?_
                  refine WP.skip ?_
                  obtain rfl := Option.some.inj hj9
                  exact ⟨H0, rfl, rfl, S⟩
                · refine WP.condF rfl hc16 ?_
                  refine WP.seq ?_
                  refine WP.region ?_
                  refine WL.valw (R.eql8 (a := p_c) (b := 42) rfl rfl) ?_
                  refine WL.valw (R.as (v := (boo (p_c == 42))) rfl) ?_
                  refine WL.nil ?_
                  rcases condE hj9 with ⟨hc17, hj9⟩ | ⟨hc17, hj9⟩
                  · refine WP.condT rfl hc17 ?_
                    refine WP.skip ?_
                    obtain rfl := Option.some.inj hj9
                    exact ⟨H0, rfl, rfl, S⟩
                  · refine WP.condF rfl hc17 ?_
                    refine WP.seq ?_
                    refine WP.region ?_
                    refine WL.valw (R.eql8 (a := p_c) (b := 43) rfl rfl) ?_
                    refine WL.valw (R.as (v := (boo (p_c == 43))) rfl) ?_
                    refine WL.nil ?_
                    rcases condE hj9 with ⟨hc18, hj9⟩ | ⟨hc18, hj9⟩
                    · refine WP.condT rfl hc18 ?_
                      refine WP.skip ?_
                      obtain rfl := Option.some.inj hj9
                      exact ⟨H0, rfl, rfl, S⟩
                    · refine WP.condF rfl hc18 ?_
                      refine WP.seq ?_
                      refine WP.region ?_
                      refine WL.valw (R.eql8 (a := p_c) (b := 45) rfl rfl) ?_
                      refine WL.valw (R.as (v := (boo (p_c == 45))) rfl) ?_
                      refine WL.nil ?_
                      rcases condE hj9 with ⟨hc19, hj9⟩ | ⟨hc19, hj9⟩
                      · refine WP.condT rfl hc19 ?_
                        refine WP.skip ?_
                        obtain rfl := Option.some.inj hj9
                        exact ⟨H0, rfl, rfl, S⟩
                      · refine WP.condF rfl hc19 ?_
                        refine WP.seq ?_
                        refine WP.region ?_
                        refine WL.valw (R.eql8 (a := p_c) (b := 46) rfl rfl) ?_
                        refine WL.valw (R.as (v := (boo (p_c == 46))) rfl) ?_
                        refine WL.nil ?_
                        rcases condE hj9 with ⟨hc20, hj9⟩ | ⟨hc20, hj9⟩
                        · refine WP.condT rfl hc20 ?_
                          refine WP.skip ?_
                          obtain rfl := Option.some.inj hj9
                          exact ⟨H0, rfl, rfl, S⟩
                        · refine WP.condF rfl hc20 ?_
                          refine WP.seq ?_
                          refine WP.region ?_
                          refine WL.valw (R.eql8 (a := p_c) (b := 94) rfl rfl) ?_
                          refine WL.valw (R.as (v := (boo (p_c == 94))) rfl) ?_
                          refine WL.nil ?_
                          rcases condE hj9 with ⟨hc21, hj9⟩ | ⟨hc21, hj9⟩
                          · refine WP.condT rfl hc21 ?_
                            refine WP.skip ?_
                            obtain rfl := Option.some.inj hj9
                            exact ⟨H0, rfl, rfl, S⟩
                          · refine WP.condF rfl hc21 ?_
                            refine WP.seq ?_
                            refine WP.region ?_
                            refine WL.valw (R.eql8 (a := p_c) (b := 95) rfl rfl) ?_
                            refine WL.valw (R.as (v := (boo (p_c == 95))) rfl) ?_
                            refine WL.nil ?_
                            rcases condE hj9 with ⟨hc22, hj9⟩ | ⟨hc22, hj9⟩
                            · refine WP.condT rfl hc22 ?_
                              refine WP.skip ?_
                              obtain rfl := Option.some.inj hj9
                              exact ⟨H0, rfl, rfl, S⟩
                            · refine WP.condF rfl hc22 ?_
                              refine WP.seq ?_
                              refine WP.region ?_
                              refine WL.valw (R.eql8 (a := p_c) (b := 96) rfl rfl) ?_
                              refine WL.valw (R.as (v := (boo (p_c == 96))) rfl) ?_
                              refine WL.nil ?_
                              rcases condE hj9 with ⟨hc23, hj9⟩ | ⟨hc23, hj9⟩
                              · refine WP.condT rfl hc23 ?_
                                refine WP.skip ?_
                                obtain rfl := Option.some.inj hj9
                                exact ⟨H0, rfl, rfl, S⟩
                              · refine WP.condF rfl hc23 ?_
                                refine WP.seq ?_
                                refine WP.region ?_
                                refine WL.valw (R.eql8 (a := p_c) (b := 124) rfl rfl) ?_
                                refine WL.valw (R.as (v := (boo (p_c == 124))) rfl) ?_
                                refine WL.nil ?_
                                rcases condE hj9 with ⟨hc24, hj9⟩ | ⟨hc24, hj9⟩
                                · refine WP.condT rfl hc24 ?_
                                  refine WP.skip ?_
                                  obtain rfl := Option.some.inj hj9
                                  exact ⟨H0, rfl, rfl, S⟩
                                · refine WP.condF rfl hc24 ?_
                                  refine WP.region ?_
                                  refine WL.valw (R.eql8 (a := p_c) (b := 126) rfl rfl) ?_
                                  refine WL.valw (R.as (v := (boo (p_c == 126))) rfl) ?_
                                  refine WL.nil ?_
                                  obtain rfl := Option.some.inj hj9
                                  exact ⟨H0, rfl, rfl, S⟩
    · rintro f w ⟨H5, h6, h8, S⟩
      rcases condE hj3 with ⟨hc25, hj3⟩ | ⟨hc25, hj3⟩
      · refine WP.condT h8 hc25 ?_
        refine WP.seq ?_
        refine WP.region ?_
        refine WL.valw (R.as (v := (boo true)) rfl) ?_
        refine WL.nil ?_
        obtain rfl := Option.some.inj hj3
        obtain rfl := Option.some.inj h
        refine WP.ret (Out.one rfl S rfl ?_)
        exact rfl
      · refine WP.condF h8 hc25 ?_
        refine WP.skip ?_
        obtain rfl := Option.some.inj hj3
        exact ⟨H5, h6, S⟩
  · intro f w hM
    rcases j4 with _ | e
    · obtain ⟨H1, h2, S⟩ := hM
      refine WP.seq ?_
      refine WP.region ?_
      refine WL.valw (R.mv (v := (byt p_c)) h2) ?_
      refine WL.valw (R.geq8 (a := p_c) (b := 48) rfl rfl) ?_
      refine WL.valw (R.mv (v := (boo (decide (48 ≤ p_c)))) rfl) ?_
      refine WL.grp 3 [23, 24] 25 (boo ((decide (48 ≤ p_c)) && (decide (p_c ≤ 57)))) ?_ ?_
      · rcases boolE (decide (48 ≤ p_c)) with hb26 | hb26
        · refine WL.gyes rfl rfl hb26 ?_
          refine WL.valw (R.mv (v := (byt p_c)) h2) ?_
          refine WL.gyes rfl rfl hb26 ?_
          refine WL.valw (R.leq8 (a := p_c) (b := 57) rfl rfl) ?_
          refine WL.valw (R.pickT rfl hb26 rfl) ?_
          exact WL.nil ⟨(andT hb26), (by repeat (first | refine agree_upd rfl ?_ | refine agree_upds' rfl ?_ | exact agree_refl)), rfl⟩
        · refine WL.gno rfl rfl hb26 ?_
          refine WL.gno rfl rfl hb26 ?_
          refine WL.valw (R.pickF rfl hb26 rfl) ?_
          exact WL.nil ⟨(andF hb26), (by repeat (first | refine agree_upd rfl ?_ | refine agree_upds' rfl ?_ | exact agree_refl)), rfl⟩
      · intro us
        refine WL.valw (R.mv (v := (boo ((decide (48 ≤ p_c)) && (decide (p_c ≤ 57))))) rfl) ?_
        refine WL.grp 7 [27, 28, 29, 30, 31, 32] 33 (boo (((decide (48 ≤ p_c)) && (decide (p_c ≤ 57))) || ((decide (65 ≤ p_c)) && (decide (p_c ≤ 90))))) ?_ ?_
        · rcases boolE ((decide (48 ≤ p_c)) && (decide (p_c ≤ 57))) with hb28 | hb28
          · refine WL.gno rfl rfl hb28 ?_
            refine WL.gno rfl rfl hb28 ?_
            refine WL.gno rfl rfl hb28 ?_
            refine WL.gund rfl rfl ?_
            refine WL.gund rfl rfl ?_
            refine WL.gno rfl rfl hb28 ?_
            refine WL.valw (R.pickT rfl hb28 rfl) ?_
            exact WL.nil ⟨(orT hb28), (by repeat (first | refine agree_upd rfl ?_ | refine agree_upds' rfl ?_ | exact agree_refl)), rfl⟩
          · refine WL.gyes rfl rfl hb28 ?_
            refine WL.valw (R.mv (v := (byt p_c)) h2) ?_
            refine WL.gyes rfl rfl hb28 ?_
            refine WL.valw (R.geq8 (a := p_c) (b := 65) rfl rfl) ?_
            refine WL.gyes rfl rfl hb28 ?_
            refine WL.valw (R.mv (v := (boo (decide (65 ≤ p_c)))) rfl) ?_
            refine WL.grp 3 [30, 31] 32 (boo ((decide (65 ≤ p_c)) && (decide (p_c ≤ 90)))) ?_ ?_
            · rcases boolE (decide (65 ≤ p_c)) with hb30 | hb30
              · refine WL.gyes rfl rfl hb30 ?_
                refine WL.valw (R.mv (v := (byt p_c)) h2) ?_
                refine WL.gyes rfl rfl hb30 ?_
                refine WL.valw (R.leq8 (a := p_c) (b := 90) rfl rfl) ?_
                refine WL.gyes rfl rfl hb28 ?_
                refine WL.valw (R.pickT rfl hb30 rfl) ?_
                exact WL.nil ⟨(andT hb30), (by repeat (first | refine agree_upd rfl ?_ | refine agree_upds' rfl ?_ | exact agree_refl)), rfl⟩
              · refine WL.gno rfl rfl hb30 ?_
                refine WL.gno rfl rfl hb30 ?_
                refine WL.gyes rfl rfl hb28 ?_
                refine WL.valw (R.pickF rfl hb30 rfl) ?_
                exact WL.nil ⟨(andF hb30), (by repeat (first | refine agree_upd rfl ?_ | refine agree_upds' rfl ?_ | exact agree_refl)), rfl⟩
            · intro us
              refine WL.valw (R.pickF rfl hb28 rfl) ?_
              exact WL.nil ⟨(orF hb28), (by repeat (first | refine agree_upd rfl ?_ | refine agree_upds' rfl ?_ | exact agree_refl)), rfl⟩
        · intro us
          refine WL.valw (R.mv (v := (boo (((decide (48 ≤ p_c)) && (decide (p_c ≤ 57))) || ((decide (65 ≤ p_c)) && (decide (p_c ≤ 90)))))) rfl) ?_
          refine WL.grp 7 [35, 36, 37, 38, 39, 40] 41 (boo ((((decide (48 ≤ p_c)) && (decide (p_c ≤ 57))) || ((decide (65 ≤ p_c)) && (decide (p_c ≤ 90)))) || ((decide (97 ≤ p_c)) && (decide (p_c ≤ 122))))) ?_ ?_
          · rcases boolE (((decide (48 ≤ p_c)) && (decide (p_c ≤ 57))) || ((decide (65 ≤ p_c)) && (decide (p_c ≤ 90)))) with hb32 | hb32
            · refine WL.gno rfl rfl hb32 ?_
              refine WL.gno rfl rfl hb32 ?_
              refine WL.gno rfl rfl hb32 ?_
              refine WL.gund rfl rfl ?_
              refine WL.gund rfl rfl ?_
              refine WL.gno rfl rfl hb32 ?_
              refine WL.valw (R.pickT rfl hb32 rfl) ?_
              exact WL.nil ⟨(orT hb32), (by repeat (first | refine agree_upd rfl ?_ | refine agree_upds' rfl ?_ | exact agree_refl)), rfl⟩
            · refine WL.gyes rfl rfl hb32 ?_
              refine WL.valw (R.mv (v := (byt p_c)) h2) ?_
              refine WL.gyes rfl rfl hb32 ?_
              refine WL.valw (R.geq8 (a := p_c) (b := 97) rfl rfl) ?_
              refine WL.gyes rfl rfl hb32 ?_
              refine WL.valw (R.mv (v := (boo (decide (97 ≤ p_c)))) rfl) ?_
              refine WL.grp 3 [38, 39] 40 (boo ((decide (97 ≤ p_c)) && (decide (p_c ≤ 122)))) ?_ ?_
              · rcases boolE (decide (97 ≤ p_c)) with hb34 | hb34
                · refine WL.gyes rfl rfl hb34 ?_
                  refine WL.valw (R.mv (v := (byt p_c)) h2) ?_
                  refine WL.gyes rfl rfl hb34 ?_
                  refine WL.valw (R.leq8 (a := p_c) (b := 122) rfl rfl) ?_
                  refine WL.gyes rfl rfl hb32 ?_
                  refine WL.valw (R.pickT rfl hb34 rfl) ?_
                  exact WL.nil ⟨(andT hb34), (by repeat (first | refine agree_upd rfl ?_ | refine agree_upds' rfl ?_ | exact agree_refl)), rfl⟩
                · refine WL.gno rfl rfl hb34 ?_
                  refine WL.gno rfl rfl hb34 ?_
                  refine WL.gyes rfl rfl hb32 ?_
                  refine WL.valw (R.pickF rfl hb34 rfl) ?_
                  exact WL.nil ⟨(andF hb34), (by repeat (first | refine agree_upd rfl ?_ | refine agree_upds' rfl ?_ | exact agree_refl)), rfl⟩
              · intro us
                refine WL.valw (R.pickF rfl hb32 rfl) ?_
                exact WL.nil ⟨(orF hb32), (by repeat (first | refine agree_upd rfl ?_ | refine agree_upds' rfl ?_ | exact agree_refl)), rfl⟩
          · intro us
            refine WL.valw (R.as (v := (boo ((((decide (48 ≤ p_c)) && (decide (p_c ≤ 57))) || ((decide (65 ≤ p_c)) && (decide (p_c ≤ 90)))) || ((decide (97 ≤ p_c)) && (decide (p_c ≤ 122)))))) rfl) ?_
            refine WL.nil ?_
            obtain rfl := Option.some.inj h
            refine WP.ret (Out.one rfl S rfl ?_)
            exact rfl
    · exact hM.elim
set_option maxRecDepth 10000 in
set_option maxHeartbeats 4000000 in
theorem ascii_Token_ok {w0 : World} {H0 : Hp} (hw : Holds w0 H0) (p_s : Str) {r : Bool} (h : ascii_Token p_s = some r) :
    Con Tryz.prog 37 [(str p_s)] w0 H0 (fun H' v => v = (boo r)) := by
  refine Con.mk (N := 17) Tryz.func37 rfl rfl (by kernel_rfl) rfl ?_
  have S := St.start hw
  refine WP.seq ?_
  refine WP.region ?_
  refine WL.valw (R.as (v := (boo false)) rfl) ?_
  refine WL.nil ?_
  refine WP.seq ?_
  refine WP.seq ?_
  refine WP.region ?_
  refine WL.valw (R.mv (v := (str p_s)) rfl) ?_
  refine WL.valw (R.lenS (a := p_s) rfl Tryz.underlying9) ?_
  refine WL.valw (R.mv (v := (int 0)) rfl) ?_
  refine WL.nil ?_
  obtain ⟨r11, hr12, h⟩ := bindE h
  refine WP.cut (fun f w => match r11 with | .inl _ => ∃ (H6 : Hp), f 0 = (str p_s) ∧ St w0 H0 w H6 [] | .inr _ => False) ?_ ?_
  · refine WP.block ?_
    refine WP.loopM (ascii_Token_L0 p_s) (fun s f w => match s with | y_4 => ∃ (H1 : Hp), f 0 = (str p_s) ∧ f 5 = (int (p_s.length : Int)) ∧ f 6 = (int y_4) ∧ St w0 H0 w H1 []) 0 r11 hr12 ?_ ?_
    · exact ⟨H0, rfl, rfl, rfl, S⟩
    · intro y_4 f w hI y8 hy9 hy10
      obtain ⟨H1, h2, h3, h5, S⟩ := hI
      refine WP.seq ?_
      refine WP.region ?_
      refine WL.valw (R.lss h5 h3) ?_
      refine WL.nil ?_
      refine WP.seq ?_
      rcases condE hy9 with ⟨hc13, hy9⟩ | ⟨hc13, hy9⟩
      · refine WP.condT rfl hc13 ?_
        refine WP.skip ?_
        refine WP.seq ?_
        refine WP.block ?_
        refine WP.seq ?_
        refine WP.region ?_
        refine WL.valw (R.mv (v := (int y_4)) h5) ?_
        refine WL.valw (R.as (v := (int y_4)) rfl) ?_
        refine WL.nil ?_
        refine WP.seq ?_
        refine WP.region ?_
        refine WL.valw (R.mv (v := (str p_s)) h2) ?_
        refine WL.valw (R.mv (v := (int y_4)) rfl) ?_
        obtain ⟨c14, hc14, hy9⟩ := bindE hy9
        refine WL.valw (R.idxS rfl rfl Tryz.underlying9 hc14) ?_
        obtain ⟨r15, hr15, hy9⟩ := bindE hy9
        refine W.call S rfl (ascii_part_ok S.holds c14 hr15) ?_
        rintro v16 w17 H18 hle19 S rfl
        refine WL.valw (R.not rfl) ?_
        refine WL.nil ?_
        rcases condE hy9 with ⟨hc20, hy9⟩ | ⟨hc20, hy9⟩
        · refine WP.condT rfl hc20 ?_
          refine WP.seq ?_
          refine WP.region ?_
          refine WL.valw (R.as (v := (boo false)) rfl) ?_
          refine WL.nil ?_
          obtain rfl := Option.some.inj hy9
          obtain rfl := hy10
          obtain rfl := Option.some.inj h
          refine WP.ret (Out.one rfl S rfl ?_)
          exact rfl
        · refine WP.condF rfl hc20 ?_
          refine WP.skip ?_
          refine WP.region ?_
          refine WL.valw (R.add h5 rfl) ?_
          refine WL.valw (R.mv (v := (int (wr (y_4 + 1)))) rfl) ?_
          refine WL.nil ?_
          obtain rfl := Option.some.inj hy9
          exact ⟨rfl, ⟨H18, h2, h3, rfl, S⟩⟩
      · refine WP.condF rfl hc13 ?_
        refine WP.exit ?_
        obtain rfl := Option.some.inj hy9
        obtain rfl := hy10
        exact ⟨H1, h2, S⟩
  · intro f w hM
    rcases r11 with _ | e
    · obtain ⟨H6, h7, S⟩ := hM
      refine WP.seq ?_
      refine WP.region ?_
      refine WL.valw (R.mv (v := (str p_s)) h7) ?_
      refine WL.valw (R.neqS (a := p_s) (b := []) rfl rfl) ?_
      refine WL.valw (R.as (v := (boo (p_s != []))) rfl) ?_
      refine WL.nil ?_
      obtain rfl := Option.some.inj h
      refine WP.ret (Out.one rfl S rfl ?_)
      exact rfl
    · exact hM.elim
set_option maxRecDepth 10000 in
set_option maxHeartbeats 4000000 in
theorem ascii_Text_ok {w0 : World} {H0 : Hp} (hw : Holds w0 H0) (p_s : Str) {r : Bool} (h : ascii_Text p_s = some r) :
    Con Tryz.prog 82 [(str p_s)] w0 H0 (fun H' v => v = (boo r)) := by
  refine Con.mk (N := 26) Tryz.func82 rfl rfl (by kernel_rfl) rfl ?_
  have S := St.start hw
  refine WP.seq ?_
  refine WP.region ?_
  refine WL.valw (R.as (v := (boo false)) rfl) ?_
  refine WL.nil ?_
  refine WP.seq ?_
  refine WP.seq ?_
  refine WP.region ?_
  refine WL.valw (R.mv (v := (str p_s)) rfl) ?_
  refine WL.valw (R.lenS (a := p_s) rfl Tryz.underlying9) ?_
  refine WL.valw (R.mv (v := (int 0)) rfl) ?_
  refine WL.nil ?_
  obtain ⟨r10, hr11, h⟩ := bindE h
  refine WP.cut (fun f w => match r10 with | .inl _ => ∃ (H6 : Hp), St w0 H0 w H6 [] | .inr _ => False) ?_ ?_
  · refine WP.block ?_
    refine WP.loopM (ascii_Text_L0 p_s) (fun s f w => match s with | y_4 => ∃ (H1 : Hp), f 0 = (str p_s) ∧ f 5 = (int (p_s.length : Int)) ∧ f 6 = (int y_4) ∧ St w0 H0 w H1 []) 0 r10 hr11 ?_ ?_
    · exact ⟨H0, rfl, rfl, rfl, S⟩
    · intro y_4 f w hI y7 hy8 hy9
      obtain ⟨H1, h2, h3, h5, S⟩ := hI
      refine WP.seq ?_
      refine WP.region ?_
      refine WL.valw (R.lss h5 h3) ?_
      refine WL.nil ?_
      refine WP.seq ?_
      rcases condE hy8 with ⟨hc12, hy8⟩ | ⟨hc12, hy8⟩
      · refine WP.condT rfl hc12 ?_
        refine WP.skip ?_
        refine WP.seq ?_
        refine WP.block ?_
        refine WP.seq ?_
        refine WP.region ?_
        refine WL.valw (R.mv (v := (int y_4)) h5) ?_
        refine WL.valw (R.as (v := (int y_4)) rfl) ?_
        refine WL.nil ?_
        refine WP.seq ?_
        refine WP.region ?_
        refine WL.valw (R.mv (v := (str p_s)) h2) ?_
        refine WL.valw (R.mv (v := (int y_4)) rfl) ?_
        obtain ⟨c13, hc13, hy8⟩ := bindE hy8
        refine WL.valw (R.idxS rfl rfl Tryz.underlying9 hc13) ?_
        refine WL.valw (R.lss8 (a := c13) (b := 32) rfl rfl) ?_
        refine WL.valw (R.mv (v := (boo (decide (c13 < 32)))) rfl) ?_
        obtain ⟨b17, hg15, hy8⟩ := bindE hy8
        refine WL.grp 5 [14, 15, 16, 17] 18 (boo b17) ?_ ?_
        · rcases boolE (decide (c13 < 32)) with hb14 | hb14
          · replace hg15 := condT hg15 hb14
            refine WL.gyes rfl rfl hb14 ?_
            refine WL.valw (R.mv (v := (str p_s)) h2) ?_
            refine WL.gyes rfl rfl hb14 ?_
            refine WL.valw (R.mv (v := (int y_4)) rfl) ?_
            refine WL.gyes rfl rfl hb14 ?_
            obtain ⟨c16, hc16, hg15⟩ := bindE hg15
            refine WL.valw (R.idxS rfl rfl Tryz.underlying9 hc16) ?_
            refine WL.gyes rfl rfl hb14 ?_
            refine WL.valw (R.neq8 (a := c16) (b := 9) rfl rfl) ?_
            refine WL.valw (R.pickT rfl hb14 rfl) ?_
            exact WL.nil ⟨(congrArg boo (Option.some.inj hg15)), (by repeat (first | refine agree_upd rfl ?_ | refine agree_upds' rfl ?_ | exact agree_refl)), rfl⟩
          · replace hg15 := condF hg15 hb14
            refine WL.gno rfl rfl hb14 ?_
            refine WL.gno rfl rfl hb14 ?_
            refine WL.gno rfl rfl hb14 ?_
            refine WL.gno rfl rfl hb14 ?_
            refine WL.valw (R.pickF rfl hb14 rfl) ?_
            exact WL.nil ⟨(congrArg boo (Option.some.inj hg15)), (by repeat (first | refine agree_upd rfl ?_ | refine agree_upds' rfl ?_ | exact agree_refl)), rfl⟩
        · intro us
          refine WL.valw (R.mv (v := (boo b17)) rfl) ?_
          obtain ⟨b21, hg19, hy8⟩ := bindE hy8
          refine WL.grp 5 [20, 21, 22, 23] 24 (boo b21) ?_ ?_
          · rcases boolE b17 with hb18 | hb18
            · replace hg19 := condT hg19 hb18
              refine WL.gno rfl rfl hb18 ?_
              refine WL.gno rfl rfl hb18 ?_
              refine WL.gno rfl rfl hb18 ?_
              refine WL.gno rfl rfl hb18 ?_
              refine WL.valw (R.pickT rfl hb18 rfl) ?_
              exact WL.nil ⟨(congrArg boo (Option.some.inj hg19)), (by repeat (first | refine agree_upd rfl ?_ | refine agree_upds' rfl ?_ | exact agree_refl)), rfl⟩
            · replace hg19 := condF hg19 hb18
              refine WL.gyes rfl rfl hb18 ?_
              refine WL.valw (R.mv (v := (str p_s)) h2) ?_
              refine WL.gyes rfl rfl hb18 ?_
              refine WL.valw (R.mv (v := (int y_4)) rfl) ?_
              refine WL.gyes rfl rfl hb18 ?_
              obtain ⟨c20, hc20, hg19⟩ := bindE hg19
              refine WL.valw (R.idxS rfl rfl Tryz.underlying9 hc20) ?_
              refine WL.gyes rfl rfl hb18 ?_
              refine WL.valw (R.eql8 (a := c20) (b := 127) rfl rfl) ?_
              refine WL.valw (R.pickF rfl hb18 rfl) ?_
              exact WL.nil ⟨(congrArg boo (Option.some.inj hg19)), (by repeat (first | refine agree_upd rfl ?_ | refine agree_upds' rfl ?_ | exact agree_refl)), rfl⟩
          · intro us
            refine WL.nil ?_
            rcases condE hy8 with ⟨hc22, hy8⟩ | ⟨hc22, hy8⟩
            · refine WP.condT rfl hc22 ?_
              refine WP.seq ?_
              refine WP.region ?_
              refine WL.valw (R.as (v := (boo false)) rfl) ?_
              refine WL.nil ?_
              obtain rfl := Option.some.inj hy8
              obtain rfl := hy9
              obtain rfl := Option.some.inj h
              refine WP.ret (Out.one rfl S rfl ?_)
              exact rfl
            · refine WP.condF rfl hc22 ?_
              refine WP.skip ?_
              refine WP.region ?_
              refine WL.valw (R.add h5 rfl) ?_
              refine WL.valw (R.mv (v := (int (wr (y_4 + 1)))) rfl) ?_
              refine WL.nil ?_
              obtain rfl := Option.some.inj hy8
              exact ⟨rfl, ⟨H1, h2, h3, rfl, S⟩⟩
      · refine WP.condF rfl hc12 ?_
        refine WP.exit ?_
        obtain rfl := Option.some.inj hy8
        obtain rfl := hy9
        exact ⟨H1, S⟩
  · intro f w hM
    rcases r10 with _ | e
    · obtain ⟨H6, S⟩ := hM
      refine WP.seq ?_
      refine WP.region ?_
      refine WL.valw (R.as (v := (boo true)) rfl) ?_
      refine WL.nil ?_
      obtain rfl := Option.some.inj h
      refine WP.ret (Out.one rfl S rfl ?_)
      exact rfl
    · exact hM.elim
set_option maxRecDepth 10000 in
set_option maxHeartbeats 4000000 in
theorem ascii_Unquote_ok {w0 : World} {H0 : Hp} (hw : Holds w0 H0) (p_s : Str) {r : (Str × Bool)} (h : ascii_Unquote p_s = some r) :
    Con Tryz.prog 63 [(str p_s)] w0 H0 (fun H' v => v = (.tuple ⟨[(str r.1), (boo r.2)]⟩)) := by
  refine Con.mk (N := 64) Tryz.func63 rfl rfl (by kernel_rfl) rfl ?_
  have S := St.start hw
  refine WP.seq ?_
  refine WP.region ?_
  refine WL.valw (R.as (v := (str [])) rfl) ?_
  refine WL.valw (R.as (v := (boo false)) rfl) ?_
  refine WL.nil ?_
  refine WP.seq ?_
  refine WP.seq ?_
  refine WP.region ?_
  refine WL.valw (R.mv (v := (str p_s)) rfl) ?_
  refine WL.valw (R.lenS (a := p_s) rfl Tryz.underlying9) ?_
  refine WL.valw (R.lss rfl rfl) ?_
  refine WL.valw (R.mv (v := (boo (decide ((p_s.length : Int) < 2)))) rfl) ?_
  obtain ⟨b4, hg2, h⟩ := bindE h
  refine WL.grp 4 [11, 12, 13] 14 (boo b4) ?_ ?_
  · rcases boolE (decide ((p_s.length : Int) < 2)) with hb1 | hb1
    · replace hg2 := condT hg2 hb1
      refine WL.gno rfl rfl hb1 ?_
      refine WL.gno rfl rfl hb1 ?_
      refine WL.gno rfl rfl hb1 ?_
      refine WL.valw (R.pickT rfl hb1 rfl) ?_
      exact WL.nil ⟨(congrArg boo (Option.some.inj hg2)), (by repeat (first | refine agree_upd rfl ?_ | refine agree_upds' rfl ?_ | exact agree_refl)), rfl⟩
    · replace hg2 := condF hg2 hb1
      refine WL.gyes rfl rfl hb1 ?_
      refine WL.valw (R.mv (v := (str p_s)) rfl) ?_
      refine WL.gyes rfl rfl hb1 ?_
      obtain ⟨c3, hc3, hg2⟩ := bindE hg2
      refine WL.valw (R.idxS rfl rfl Tryz.underlying9 hc3) ?_
      refine WL.gyes rfl rfl hb1 ?_
      refine WL.valw (R.neq8 (a := c3) (b := 34) rfl rfl) ?_
      refine WL.valw (R.pickF rfl hb1 rfl) ?_
      exact WL.nil ⟨(congrArg boo (Option.some.inj hg2)), (by repeat (first | refine agree_upd rfl ?_ | refine agree_upds' rfl ?_ | exact agree_refl)), rfl⟩
  · intro us
    refine WL.valw (R.mv (v := (boo b4)) rfl) ?_
    obtain ⟨b8, hg6, h⟩ := bindE h
    refine WL.grp 7 [16, 17, 18, 19, 20, 21] 22 (boo b8) ?_ ?_
    · rcases boolE b4 with hb5 | hb5
      · replace hg6 := condT hg6 hb5
        refine WL.gno rfl rfl hb5 ?_
        refine WL.gno rfl rfl hb5 ?_
        refine WL.gno rfl rfl hb5 ?_
        refine WL.gno rfl rfl hb5 ?_
        refine WL.gno rfl rfl hb5 ?_
        refine WL.gno rfl rfl hb5 ?_
        refine WL.valw (R.pickT rfl hb5 rfl) ?_
        exact WL.nil ⟨(congrArg boo (Option.some.inj hg6)), (by repeat (first | refine agree_upd rfl ?_ | refine agree_upds' rfl ?_ | exact agree_refl)), rfl⟩
      · replace hg6 := condF hg6 hb5
        refine WL.gyes rfl rfl hb5 ?_
        refine WL.valw (R.mv (v := (str p_s)) rfl) ?_
        refine WL.gyes rfl rfl hb5 ?_
        refine WL.valw (R.mv (v := (str p_s)) rfl) ?_
        refine WL.gyes rfl rfl hb5 ?_
        refine WL.valw (R.lenS (a := p_s) rfl Tryz.underlying9) ?_
        refine WL.gyes rfl rfl hb5 ?_
        refine WL.valw (R.sub rfl rfl) ?_
        refine WL.gyes rfl rfl hb5 ?_
        obtain ⟨c7, hc7, hg6⟩ := bindE hg6
        refine WL.valw (R.idxS rfl rfl Tryz.underlying9 hc7) ?_
        refine WL.gyes rfl rfl hb5 ?_
        refine WL.valw (R.neq8 (a := c7) (b := 34) rfl rfl) ?_
        refine WL.valw (R.pickF rfl hb5 rfl) ?_
        exact WL.nil ⟨(congrArg boo (Option.some.inj hg6)), (by repeat (first | refine agree_upd rfl ?_ | refine agree_upds' rfl ?_ | exact agree_refl)), rfl⟩
    · intro us
      refine WL.valw (R.mv (v := (boo b8)) rfl) ?_
      obtain ⟨b17, hg10, h⟩ := bindE h
      refine WL.grpw 8 [24, 25, 26, 27, 28, 29, 30] 31 (boo b17) (fun w => ∃ H' : Hp, H0.le H' ∧ St w0 H0 w H' []) ?_ ?_
      · rcases boolE b8 with hb9 | hb9
        · replace hg10 := condT hg10 hb9
          refine WL.gno rfl rfl hb9 ?_
          refine WL.gno rfl rfl hb9 ?_
          refine WL.gno rfl rfl hb9 ?_
          refine WL.gno rfl rfl hb9 ?_
          refine WL.gno rfl rfl hb9 ?_
          refine WL.gno rfl rfl hb9 ?_
          refine WL.gno rfl rfl hb9 ?_
          refine WL.valw (R.pickT rfl hb9 rfl) ?_
          exact WL.nil ⟨(congrArg boo (Option.some.inj hg10)), (by repeat (first | refine agree_upd rfl ?_ | refine agree_upds' rfl ?_ | exact agree_refl)), ⟨H0, (Hp.le.refl _), S⟩⟩
        · replace hg10 := condF hg10 hb9
          refine WL.gyes rfl rfl hb9 ?_
          refine WL.valw (R.mv (v := (str p_s)) rfl) ?_
          refine WL.gyes rfl rfl hb9 ?_
          refine WL.valw (R.mv (v := (str p_s)) rfl) ?_
          refine WL.gyes rfl rfl hb9 ?_
          refine WL.valw (R.lenS (a := p_s) rfl Tryz.underlying9) ?_
          refine WL.gyes rfl rfl hb9 ?_
          refine WL.valw (R.sub rfl rfl) ?_
          refine WL.gyes rfl rfl hb9 ?_
          obtain ⟨s11, hs11, hg10⟩ := bindE hg10
          refine WL.valw (R.subS rfl rfl rfl Tryz.underlying9 hs11) ?_
          refine WL.gyes rfl rfl hb9 ?_
          obtain ⟨r12, hr12, hg10⟩ := bindE hg10
          refine W.call S rfl (ascii_Text_ok S.holds s11 hr12) ?_
          rintro v13 w14 H15 hle16 S rfl
          refine WL.gyes rfl rfl hb9 ?_
          refine WL.valw (R.not rfl) ?_
          refine WL.valw (R.pickF rfl hb9 rfl) ?_
          exact WL.nil ⟨(congrArg boo (Option.some.inj hg10)), (by repeat (first | refine agree_upd rfl ?_ | refine agree_upds' rfl ?_ | exact agree_refl)), ⟨H15, hle16, S⟩⟩
      · intro us w19 ⟨H18, hle20, S⟩
        refine WL.nil ?_
        rcases condE h with ⟨hc21, h⟩ | ⟨hc21, h⟩
        · refine WP.condT rfl hc21 ?_
          refine WP.seq ?_
          refine WP.region ?_
          refine WL.valw (R.as (v := (str [])) rfl) ?_
          refine WL.valw (R.as (v := (boo false)) rfl) ?_
          refine WL.nil ?_
          obtain rfl := Option.some.inj h
          refine WP.ret (Out.two rfl S rfl rfl ?_)
          exact rfl
        · refine WP.condF rfl hc21 ?_
          refine WP.skip ?_
          refine WP.seq ?_
          refine WP.region ?_
          refine WL.valw (R.mv (v := (str p_s)) rfl) ?_
          refine WL.valw (R.mv (v := (str p_s)) rfl) ?_
          refine WL.valw (R.lenS (a := p_s) rfl Tryz.underlying9) ?_
          refine WL.valw (R.sub rfl rfl) ?_
          obtain ⟨s22, hs22, h⟩ := bindE h
          refine WL.valw (R.subS rfl rfl rfl Tryz.underlying9 hs22) ?_
          refine WL.valw (R.as (v := (str s22)) rfl) ?_
          refine WL.nil ?_
          refine WP.seq ?_
          refine WP.region ?_
          refine WL.valw (R.as (v := (.slice none 0 0)) rfl) ?_
          refine WL.nil ?_
          refine WP.seq ?_
          refine WP.seq ?_
          refine WP.region ?_
          refine WL.valw (R.as (v := (int 0)) rfl) ?_
          refine WL.nil ?_
          have S := S.addNil 5 1
          obtain ⟨r39, hr40, h⟩ := bindE h
          refine WP.cut (fun f w => match r39 with | .inl out_32 => ∃ (H31 : Hp) (v33 : Value), f 5 = v33 ∧ Sl (α := UInt8) H31 v33 out_32 ∧ St w0 H0 w H31 [.row v33 5 1 out_32.length] | .inr _ => False) ?_ ?_
          · refine WP.block ?_
            refine WP.loopM (ascii_Unquote_L0 s22) (fun s f w => match s with | (out_25, i_29) => ∃ (H23 : Hp) (v26 : Value), f 4 = (str s22) ∧ f 5 = v26 ∧ f 6 = (int i_29) ∧ Sl (α := UInt8) H23 v26 out_25 ∧ St w0 H0 w H23 [.row v26 5 1 out_25.length]) (([] : List UInt8), 0) r39 hr40 ?_ ?_
            · exact ⟨H18, .slice none 0 0, rfl, rfl, rfl, Sl.nil, S⟩
            · intro s f w hI y36 hy37 hy38
              obtain ⟨out_25, i_29⟩ := s
              obtain ⟨H23, v26, h24, h28, h30, R27, S⟩ := hI
              refine WP.seq ?_
              refine WP.seq ?_
              refine WP.region ?_
              refine WL.valw (R.mv (v := (int i_29)) h30) ?_
              refine WL.valw (R.mv (v := (str s22)) h24) ?_
              refine WL.valw (R.lenS (a := s22) rfl Tryz.underlying9) ?_
              refine WL.valw (R.lss rfl rfl) ?_
              refine WL.nil ?_
              rcases condE hy37 with ⟨hc41, hy37⟩ | ⟨hc41, hy37⟩
              · refine WP.condT rfl hc41 ?_
                refine WP.skip ?_
                refine WP.seq ?_
                refine WP.block ?_
                refine WP.seq ?_
                refine WP.seq ?_
                refine WP.region ?_
                refine WL.valw (R.mv (v := (str s22)) h24) ?_
                refine WL.valw (R.mv (v := (int i_29)) h30) ?_
                obtain ⟨c42, hc42, hy37⟩ := bindE hy37
                refine WL.valw (R.idxS rfl rfl Tryz.underlying9 hc42) ?_
                refine WL.nil ?_
                obtain ⟨j49, hj48, hy37⟩ := bindE hy37
                refine WP.cut (fun f w => match j49 with | .inl i_46 => ∃ (H43 : Hp), f 4 = (str s22) ∧ f 5 = v26 ∧ f 6 = (int i_46) ∧ Sl (α := UInt8) H43 v26 out_25 ∧ St w0 H0 w H43 [.row v26 5 1 out_25.length] | .inr _ => False) ?_ ?_
                · refine WP.block ?_
                  refine WP.seq ?_
                  refine WP.region ?_
                  refine WL.valw (R.eql8 (a := c42) (b := 34) rfl rfl) ?_
                  refine WL.valw (R.as (v := (boo (c42 == 34))) rfl) ?_
                  refine WL.nil ?_
                  rcases condE hj48 with ⟨hc50, hj48⟩ | ⟨hc50, hj48⟩
                  · refine WP.condT rfl hc50 ?_
                    refine WP.seq ?_
                    refine WP.region ?_
                    refine WL.valw (R.as (v := (str [])) rfl) ?_
                    refine WL.valw (R.as (v := (boo false)) rfl) ?_
                    refine WL.nil ?_
                    obtain rfl := Option.some.inj hj48
                    obtain rfl := Option.some.inj hy37
                    obtain rfl := hy38
                    obtain rfl := Option.some.inj h
                    refine WP.ret (Out.two rfl S rfl rfl ?_)
                    exact rfl
                  · refine WP.condF rfl hc50 ?_
                    refine WP.seq ?_
                    refine WP.region ?_
                    refine WL.valw (R.eql8 (a := c42) (b := 92) rfl rfl) ?_
                    refine WL.valw (R.as (v := (boo (c42 == 92))) rfl) ?_
                    refine WL.nil ?_
                    rcases condE hj48 with ⟨hc51, hj48⟩ | ⟨hc51, hj48⟩
                    · refine WP.condT rfl hc51 ?_
                      refine WP.seq ?_
                      refine WP.region ?_
                      refine WL.valw (R.mv (v := (int i_29)) h30) ?_
                      refine WL.valw (R.add rfl rfl) ?_
                      refine WL.valw (R.as (v := (int (wr (i_29 + 1)))) rfl) ?_
                      refine WL.nil ?_
                      refine WP.seq ?_
                      refine WP.region ?_
                      refine WL.valw (R.mv (v := (int (wr (i_29 + 1)))) rfl) ?_
                      refine WL.valw (R.mv (v := (str s22)) h24) ?_
                      refine WL.valw (R.lenS (a := s22) rfl Tryz.underlying9) ?_
                      refine WL.valw (R.eql rfl rfl) ?_
                      refine WL.nil ?_
                      rcases condE hj48 with ⟨hc52, hj48⟩ | ⟨hc52, hj48⟩
                      · refine WP.condT rfl hc52 ?_
                        refine WP.seq ?_
                        refine WP.region ?_
                        refine WL.valw (R.as (v := (str [])) rfl) ?_
                        refine WL.valw (R.as (v := (boo false)) rfl) ?_
                        refine WL.nil ?_
                        obtain rfl := Option.some.inj hj48
                        obtain rfl := Option.some.inj hy37
                        obtain rfl := hy38
                        obtain rfl := Option.some.inj h
                        refine WP.ret (Out.two rfl S rfl rfl ?_)
                        exact rfl
                      · refine WP.condF rfl hc52 ?_
                        refine WP.skip ?_
                        obtain rfl := Option.some.inj hj48
                        exact ⟨H23, h24, h28, rfl, R27, S⟩
                    · refine WP.condF rfl hc51 ?_
                      refine WP.skip ?_
                      obtain rfl := Option.some.inj hj48
                      exact ⟨H23, h24, h28, h30, R27, S⟩
                · intro f w hM
                  rcases j49 with i_46 | e
                  · obtain ⟨H43, h44, h45, h47, R27, S⟩ := hM
                    refine WP.region ?_
                    refine WL.valw (R.mv (v := v26) h45) ?_
                    refine WL.valw (R.mv (v := (str s22)) h44) ?_
                    refine WL.valw (R.mv (v := (int i_46)) h47) ?_
                    obtain ⟨c53, hc53, hy37⟩ := bindE hy37
                    refine WL.valw (R.idxS rfl rfl Tryz.underlying9 hc53) ?_
                    refine W.bslice (α := UInt8) [(byt c53)] ([c53] : List UInt8) S el86 rfl rfl rfl (by decide) (Go.Eng.encS ⟨rfl, rfl⟩ enc0) ?_
                    intro u54 w55 H56 hle57 R58 S
                    have R27 := Sl.mono R27 hle57
                    obtain ⟨l59, hl59, hy37⟩ := bindE hy37
                    refine W.app (α := UInt8) (i := 1) S el86 rfl rfl rfl R27 R58 hl59 ?_
                    intro v60 w61 H62 hle63 R64 S
                    have R27 := Sl.mono R27 hle63
                    have R58 := Sl.mono R58 hle63
                    refine WL.valw (R.as (v := v60) rfl) ?_
                    refine WL.nil ?_
                    refine WP.region ?_
                    refine WL.valw (R.mv (v := (int i_46)) h47) ?_
                    refine WL.valw (R.add rfl rfl) ?_
                    refine WL.valw (R.as (v := (int (wr (i_46 + 1)))) rfl) ?_
                    refine WL.nil ?_
                    obtain rfl := Option.some.inj hy37
                    exact ⟨rfl, ⟨H62, v60, h44, rfl, rfl, R64, (S.drop _ (.cons _ (.cons_cons _ .slnil)))⟩⟩
                  · exact hM.elim
              · refine WP.condF rfl hc41 ?_
                refine WP.exit ?_
                obtain rfl := Option.some.inj hy37
                obtain rfl := hy38
                exact ⟨H23, v26, h28, R27, S⟩
          · intro f w hM
            rcases r39 with out_32 | e
            · obtain ⟨H31, v33, h35, R34, S⟩ := hM
              refine WP.seq ?_
              refine WP.region ?_
              refine WL.valw (R.mv (v := v33) h35) ?_
              refine WL.valw (R.strL S R34 rfl Tryz.underlying86 Tryz.underlying9 Tryz.underlying5) ?_
              refine WL.valw (R.as (v := (str out_32)) rfl) ?_
              refine WL.valw (R.as (v := (boo true)) rfl) ?_
              refine WL.nil ?_
              obtain rfl := Option.some.inj h
              refine WP.ret (Out.two rfl S rfl rfl ?_)
              exact rfl
            · exact hM.elim
set_option maxRecDepth 10000 in
set_option maxHeartbeats 4000000 in
theorem cachecontrol_read_ok {w0 : World} {H0 : Hp} (hw : Holds w0 H0) (p_m : Str) {r : (Str × Gcachecontrol_directive)} (h : cachecontrol_read p_m = some r) :
    Con Tryz.prog 32 [(str p_m)] w0 H0 (fun H' v => v = (.tuple ⟨[(str r.1), (agg [(int r.2.fform), (str r.2.fvalue)])]⟩)) := by
  refine Con.mk (N := 63) Tryz.func32 rfl rfl (by kernel_rfl) rfl ?_
  have S := St.start hw
  refine WP.seq ?_
  refine WP.region ?_
  refine WL.valw (R.as (v := (str [])) rfl) ?_
  refine W.alloc [(int 0), (str [])] S zer55 ?_
  intro b1 w2 S
  refine WL.nil ?_
  refine WP.seq ?_
  refine WP.region ?_
  refine WL.valw (R.as (v := (int 0)) rfl) ?_
  refine WL.nil ?_
  refine WP.seq ?_
  obtain ⟨n_11, hr17, h⟩ := bindE h
  refine WP.cut (fun f w => ∃ (H8 : Hp), f 0 = (str p_m) ∧ f 3 = (ptr b1 0) ∧ f 4 = (int n_11) ∧ St w0 H0 w H8 [.box b1 55 [(int 0), (str [])]]) ?_ ?_
  · refine WP.block ?_
    refine WP.loopM (cachecontrol_read_L0 p_m) (fun s f w => match s with | n_6 => ∃ (H3 : Hp), f 0 = (str p_m) ∧ f 3 = (ptr b1 0) ∧ f 4 = (int n_6) ∧ St w0 H0 w H3 [.box b1 55 [(int 0), (str [])]]) 0 n_11 hr17 ?_ ?_
    · exact ⟨H0, rfl, rfl, rfl, S⟩
    · intro n_6 f w hI y13 hy14 hy15
      obtain ⟨H3, h4, h5, h7, S⟩ := hI
      refine WP.seq ?_
      refine WP.seq ?_
      refine WP.region ?_
      refine WL.valw (R.mv (v := (int n_6)) h7) ?_
      refine WL.valw (R.mv (v := (str p_m)) h4) ?_
      refine WL.valw (R.lenS (a := p_m) rfl Tryz.underlying9) ?_
      refine WL.valw (R.lss rfl rfl) ?_
      refine WL.valw (R.mv (v := (boo (decide (n_6 < (p_m.length : Int))))) rfl) ?_
      obtain ⟨b26, hg19, hy14⟩ := bindE hy14
      refine WL.grpw 7 [15, 16, 17, 18, 19, 20] 21 (boo b26) (fun w => ∃ H' : Hp, H3.le H' ∧ St w0 H0 w H' [.box b1 55 [(int 0), (str [])]]) ?_ ?_
      · rcases boolE (decide (n_6 < (p_m.length : Int))) with hb18 | hb18
        · replace hg19 := condT hg19 hb18
          refine WL.gyes rfl rfl hb18 ?_
          refine WL.valw (R.mv (v := (str p_m)) h4) ?_
          refine WL.gyes rfl rfl hb18 ?_
          refine WL.valw (R.mv (v := (int n_6)) h7) ?_
          refine WL.gyes rfl rfl hb18 ?_
          refine WL.valw (R.mv (v := (int n_6)) h7) ?_
          refine WL.gyes rfl rfl hb18 ?_
          refine WL.valw (R.add rfl rfl) ?_
          refine WL.gyes rfl rfl hb18 ?_
          obtain ⟨s20, hs20, hg19⟩ := bindE hg19
          refine WL.valw (R.subS rfl rfl rfl Tryz.underlying9 hs20) ?_
          refine WL.gyes rfl rfl hb18 ?_
          obtain ⟨r21, hr21, hg19⟩ := bindE hg19
          refine W.call S rfl (ascii_Token_ok S.holds s20 hr21) ?_
          rintro v22 w23 H24 hle25 S rfl
          refine WL.valw (R.pickT rfl hb18 rfl) ?_
          exact WL.nil ⟨(congrArg boo (Option.some.inj hg19)), (by repeat (first | refine agree_upd rfl ?_ | refine agree_upds' rfl ?_ | exact agree_refl)), ⟨H24, hle25, S⟩⟩
        · replace hg19 := condF hg19 hb18
          refine WL.gno rfl rfl hb18 ?_
          refine WL.gno rfl rfl hb18 ?_
          refine WL.gno rfl rfl hb18 ?_
          refine WL.gno rfl rfl hb18 ?_
          refine WL.gno rfl rfl hb18 ?_
          refine WL.gno rfl rfl hb18 ?_
          refine WL.valw (R.pickF rfl hb18 rfl) ?_
          exact WL.nil ⟨(congrArg boo (Option.some.inj hg19)), (by repeat (first | refine agree_upd rfl ?_ | refine agree_upds' rfl ?_ | exact agree_refl)), ⟨H3, (Hp.le.refl _), S⟩⟩
      · intro us w28 ⟨H27, hle29, S⟩
        refine WL.nil ?_
        rcases condE hy14 with ⟨hc30, hy14⟩ | ⟨hc30, hy14⟩
        · refine WP.condT rfl hc30 ?_
          refine WP.skip ?_
          refine WP.block ?_
          refine WP.region ?_
          refine WL.valw (R.mv (v := (int n_6)) h7) ?_
          refine WL.valw (R.add rfl rfl) ?_
          refine WL.valw (R.as (v := (int (wr (n_6 + 1)))) rfl) ?_
          refine WL.nil ?_
          obtain rfl := Option.some.inj hy14
          exact ⟨rfl, ⟨H27, h4, h5, rfl, S⟩⟩
        · refine WP.condF rfl hc30 ?_
          refine WP.exit ?_
          obtain rfl := Option.some.inj hy14
          obtain rfl := hy15
          exact ⟨H27, h4, h5, h7, S⟩
  · rintro f w ⟨H8, h9, h10, h12, S⟩
    refine WP.seq ?_
    refine WP.quiet S (by kernel_rfl) (by kernel_rfl) ?_
    refine WQ.val (fun _ _ => (R.mv (v := (str p_m)) h9)) ?_
    refine WQ.val (fun _ _ => (R.mv (v := (int n_11)) h12)) ?_
    obtain ⟨s34, hs34, h⟩ := bindE h
    refine WQ.val (fun _ _ => (R.subShi rfl rfl Tryz.underlying9 hs34)) ?_
    obtain ⟨r35, hr35, h⟩ := bindE h
    refine WQ.call (v := (str r35)) rfl (fun w H' hq S => ascii_Lower_ok S.holds s34 hr35) ?_
    refine WQ.val (fun _ _ => (R.mv (v := (str p_m)) h9)) ?_
    refine WQ.val (fun _ _ => (R.mv (v := (int n_11)) h12)) ?_
    obtain ⟨s40, hs40, h⟩ := bindE h
    refine WQ.val (fun _ _ => (R.subSlo rfl rfl Tryz.underlying9 hs40)) ?_
    refine WQ.val (fun _ _ => (R.as (v := (str r35)) rfl)) ?_
    refine WQ.val (fun _ _ => (R.as (v := (str s40)) rfl)) ?_
    refine WQ.nil ?_
    intro w31 H32 hle33 S
    refine WP.seq ?_
    refine WP.seq ?_
    refine WP.region ?_
    refine WL.valw (R.mv (v := (str s40)) rfl) ?_
    refine WL.valw (R.eqlS (a := s40) (b := []) rfl rfl) ?_
    refine WL.nil ?_
    rcases condE h with ⟨hc41, h⟩ | ⟨hc41, h⟩
    · refine WP.condT rfl hc41 ?_
      refine WP.seq ?_
      refine WP.region ?_
      refine WL.valw (R.mv (v := (str r35)) rfl) ?_
      refine WL.valw (R.build [] [(int 0), (str [])] bp55 zer55 rfl rfl) ?_
      refine WL.valw (R.as (v := (str r35)) rfl) ?_
      refine W.store (i := 0) [(int 0), (str [])] S h10 rfl rfl lay55 rfl rfl (Nat.le_of_ble_eq_true rfl) rfl ?_
      intro w42 S
      refine WL.nil ?_
      obtain rfl := Option.some.inj h
      refine WP.ret (Out.two rfl S rfl (Res.cellB (i := 0) (cs := [(int 0), (str [])]) S h10 rfl lay55 rfl rfl) ?_)
      exact rfl
    · refine WP.condF rfl hc41 ?_
      refine WP.skip ?_
      refine WP.seq ?_
      refine WP.region ?_
      refine WL.valw (R.mv (v := (str s40)) rfl) ?_
      obtain ⟨s43, hs43, h⟩ := bindE h
      refine WL.valw (R.subSlo rfl rfl Tryz.underlying9 hs43) ?_
      refine WL.valw (R.as (v := (str s43)) rfl) ?_
      refine WL.nil ?_
      refine WP.seq ?_
      refine WP.seq ?_
      refine WP.region ?_
      refine WL.valw (R.mv (v := (str s40)) rfl) ?_
      obtain ⟨c44, hc44, h⟩ := bindE h
      refine WL.valw (R.idxS rfl rfl Tryz.underlying9 hc44) ?_
      refine WL.valw (R.eql8 (a := c44) (b := 61) rfl rfl) ?_
      refine WL.valw (R.mv (v := (boo (c44 == 61))) rfl) ?_
      obtain ⟨b52, hg46, h⟩ := bindE h
      refine WL.grpw 3 [41, 42] 43 (boo b52) (fun w => ∃ H' : Hp, H32.le H' ∧ St w0 H0 w H' [.box b1 55 [(int 0), (str [])]]) ?_ ?_
      · rcases boolE (c44 == 61) with hb45 | hb45
        · replace hg46 := condT hg46 hb45
          refine WL.gyes rfl rfl hb45 ?_
          refine WL.valw (R.mv (v := (str s43)) rfl) ?_
          refine WL.gyes rfl rfl hb45 ?_
          obtain ⟨r47, hr47, hg46⟩ := bindE hg46
          refine W.call S rfl (ascii_Token_ok S.holds s43 hr47) ?_
          rintro v48 w49 H50 hle51 S rfl
          refine WL.valw (R.pickT rfl hb45 rfl) ?_
          exact WL.nil ⟨(congrArg boo (Option.some.inj hg46)), (by repeat (first | refine agree_upd rfl ?_ | refine agree_upds' rfl ?_ | exact agree_refl)), ⟨H50, hle51, S⟩⟩
        · replace hg46 := condF hg46 hb45
          refine WL.gno rfl rfl hb45 ?_
          refine WL.gno rfl rfl hb45 ?_
          refine WL.valw (R.pickF rfl hb45 rfl) ?_
          exact WL.nil ⟨(congrArg boo (Option.some.inj hg46)), (by repeat (first | refine agree_upd rfl ?_ | refine agree_upds' rfl ?_ | exact agree_refl)), ⟨H32, (Hp.le.refl _), S⟩⟩
      · intro us w54 ⟨H53, hle55, S⟩
        refine WL.nil ?_
        rcases condE h with ⟨hc56, h⟩ | ⟨hc56, h⟩
        · refine WP.condT rfl hc56 ?_
          refine WP.seq ?_
          refine WP.region ?_
          refine WL.valw (R.mv (v := (str r35)) rfl) ?_
          refine WL.valw (R.mv (v := (str s43)) rfl) ?_
          refine WL.valw (R.build [(0, (int 1)), (1, (str s43))] [(int 1), (str s43)] bp55 zer55 rfl rfl) ?_
          refine WL.valw (R.as (v := (str r35)) rfl) ?_
          refine W.store (i := 0) [(int 1), (str s43)] S h10 rfl rfl lay55 rfl rfl (Nat.le_of_ble_eq_true rfl) rfl ?_
          intro w57 S
          refine WL.nil ?_
          obtain rfl := Option.some.inj h
          refine WP.ret (Out.two rfl S rfl (Res.cellB (i := 0) (cs := [(int 1), (str s43)]) S h10 rfl lay55 rfl rfl) ?_)
          exact rfl
        · refine WP.condF rfl hc56 ?_
          refine WP.skip ?_
          refine WP.seq ?_
          refine WP.seq ?_
          refine WP.region ?_
          refine WL.valw (R.mv (v := (str s43)) rfl) ?_
          obtain ⟨r58, hr58, h⟩ := bindE h
          refine W.call S rfl (ascii_Unquote_ok S.holds s43 hr58) ?_
          rintro v59 w60 H61 hle62 S rfl
          refine WL.valw (R.mv (v := (.tuple ⟨[(str r58.1), (boo r58.2)]⟩)) rfl) ?_
          refine WL.valw (R.ext rfl rfl) ?_
          refine WL.valw (R.ext rfl rfl) ?_
          refine WL.valw (R.as (v := (str r58.1)) rfl) ?_
          refine WL.valw (R.as (v := (boo r58.2)) rfl) ?_
          refine WL.nil ?_
          refine WP.seq ?_
          refine WP.region ?_
          refine WL.valw (R.mv (v := (str s40)) rfl) ?_
          obtain ⟨c63, hc63, h⟩ := bindE h
          refine WL.valw (R.idxS rfl rfl Tryz.underlying9 hc63) ?_
          refine WL.valw (R.eql8 (a := c63) (b := 61) rfl rfl) ?_
          refine WL.valw (R.mv (v := (boo (c63 == 61))) rfl) ?_
          refine WL.grp 2 [56] 57 (boo ((c63 == 61) && r58.2)) ?_ ?_
          · rcases boolE (c63 == 61) with hb64 | hb64
            · refine WL.gyes rfl rfl hb64 ?_
              refine WL.valw (R.mv (v := (boo r58.2)) rfl) ?_
              refine WL.valw (R.pickT rfl hb64 rfl) ?_
              exact WL.nil ⟨(andT hb64), (by repeat (first | refine agree_upd rfl ?_ | refine agree_upds' rfl ?_ | exact agree_refl)), rfl⟩
            · refine WL.gno rfl rfl hb64 ?_
              refine WL.valw (R.pickF rfl hb64 rfl) ?_
              exact WL.nil ⟨(andF hb64), (by repeat (first | refine agree_upd rfl ?_ | refine agree_upds' rfl ?_ | exact agree_refl)), rfl⟩
          · intro us
            refine WL.nil ?_
            rcases condE h with ⟨hc66, h⟩ | ⟨hc66, h⟩
            · refine WP.condT rfl hc66 ?_
              refine WP.seq ?_
              refine WP.region ?_
              refine WL.valw (R.mv (v := (str r35)) rfl) ?_
              refine WL.valw (R.mv (v := (str r58.1)) rfl) ?_
              refine WL.valw (R.build [(0, (int 1)), (1, (str r58.1))] [(int 1), (str r58.1)] bp55 zer55 rfl rfl) ?_
              refine WL.valw (R.as (v := (str r35)) rfl) ?_
              refine W.store (i := 0) [(int 1), (str r58.1)] S h10 rfl rfl lay55 rfl rfl (Nat.le_of_ble_eq_true rfl) rfl ?_
              intro w67 S
              refine WL.nil ?_
              obtain rfl := Option.some.inj h
              refine WP.ret (Out.two rfl S rfl (Res.cellB (i := 0) (cs := [(int 1), (str r58.1)]) S h10 rfl lay55 rfl rfl) ?_)
              exact rfl
            · refine WP.condF rfl hc66 ?_
              refine WP.skip ?_
              refine WP.seq ?_
              refine WP.region ?_
              refine WL.valw (R.mv (v := (str r35)) rfl) ?_
              refine WL.valw (R.build [(0, (int 2))] [(int 2), (str [])] bp55 zer55 rfl rfl) ?_
              refine WL.valw (R.as (v := (str r35)) rfl) ?_
              refine W.store (i := 0) [(int 2), (str [])] S h10 rfl rfl lay55 rfl rfl (Nat.le_of_ble_eq_true rfl) rfl ?_
              intro w68 S
              refine WL.nil ?_
              obtain rfl := Option.some.inj h
              refine WP.ret (Out.two rfl S rfl (Res.cellB (i := 0) (cs := [(int 2), (str [])]) S h10 rfl lay55 rfl rfl) ?_)
              exact rfl
set_option maxRecDepth 10000 in
set_option maxHeartbeats 4000000 in
theorem ascii_Number_ok {w0 : World} {H0 : Hp} (hw : Holds w0 H0) (p_s : Str) {r : (Int × Bool)} (h : ascii_Number p_s = some r) :
    Con Tryz.prog 54 [(str p_s)] w0 H0 (fun H' v => v = (.tuple ⟨[(int r.1), (boo r.2)]⟩)) := by
  refine Con.mk (N := 34) Tryz.func54 rfl rfl (by kernel_rfl) rfl ?_
  have S := St.start hw
  refine WP.seq ?_
  refine WP.region ?_
  refine WL.valw (R.as (v := (int 0)) rfl) ?_
  refine WL.valw (R.as (v := (boo false)) rfl) ?_
  refine WL.nil ?_
  refine WP.seq ?_
  refine WP.region ?_
  refine WL.valw (R.as (v := (int 0)) rfl) ?_
  refine WL.nil ?_
  refine WP.seq ?_
  refine WP.seq ?_
  refine WP.region ?_
  refine WL.valw (R.mv (v := (str p_s)) rfl) ?_
  refine WL.valw (R.lenS (a := p_s) rfl Tryz.underlying9) ?_
  refine WL.valw (R.mv (v := (int 0)) rfl) ?_
  refine WL.nil ?_
  obtain ⟨r15, hr16, h⟩ := bindE h
  refine WP.cut (fun f w => match r15 with | .inl n_10 => ∃ (H8 : Hp), f 0 = (str p_s) ∧ f 4 = (int n_10) ∧ St w0 H0 w H8 [] | .inr _ => False) ?_ ?_
  · refine WP.block ?_
    refine WP.loopM (ascii_Number_L0 p_s) (fun s f w => match s with | (n_3, y_6) => ∃ (H1 : Hp), f 0 = (str p_s) ∧ f 4 = (int n_3) ∧ f 7 = (int (p_s.length : Int)) ∧ f 8 = (int y_6) ∧ St w0 H0 w H1 []) (0, 0) r15 hr16 ?_ ?_
    · exact ⟨H0, rfl, rfl, rfl, rfl, S⟩
    · intro s f w hI y12 hy13 hy14
      obtain ⟨n_3, y_6⟩ := s
      obtain ⟨H1, h2, h4, h5, h7, S⟩ := hI
      refine WP.seq ?_
      refine WP.region ?_
      refine WL.valw (R.lss h7 h5) ?_
      refine WL.nil ?_
      refine WP.seq ?_
      rcases condE hy13 with ⟨hc17, hy13⟩ | ⟨hc17, hy13⟩
      · refine WP.condT rfl hc17 ?_
        refine WP.skip ?_
        refine WP.seq ?_
        refine WP.block ?_
        refine WP.seq ?_
        refine WP.region ?_
        refine WL.valw (R.mv (v := (int y_6)) h7) ?_
        refine WL.valw (R.as (v := (int y_6)) rfl) ?_
        refine WL.nil ?_
        refine WP.seq ?_
        refine WP.seq ?_
        refine WP.region ?_
        refine WL.valw (R.mv (v := (str p_s)) h2) ?_
        refine WL.valw (R.mv (v := (int y_6)) rfl) ?_
        obtain ⟨c18, hc18, hy13⟩ := bindE hy13
        refine WL.valw (R.idxS rfl rfl Tryz.underlying9 hc18) ?_
        refine WL.valw (R.lss8 (a := c18) (b := 48) rfl rfl) ?_
        refine WL.valw (R.mv (v := (boo (decide (c18 < 48)))) rfl) ?_
        obtain ⟨b22, hg20, hy13⟩ := bindE hy13
        refine WL.grp 5 [16, 17, 18, 19] 20 (boo b22) ?_ ?_
        · rcases boolE (decide (c18 < 48)) with hb19 | hb19
          · replace hg20 := condT hg20 hb19
            refine WL.gno rfl rfl hb19 ?_
            refine WL.gno rfl rfl hb19 ?_
            refine WL.gno rfl rfl hb19 ?_
            refine WL.gno rfl rfl hb19 ?_
            refine WL.valw (R.pickT rfl hb19 rfl) ?_
            exact WL.nil ⟨(congrArg boo (Option.some.inj hg20)), (by repeat (first | refine agree_upd rfl ?_ | refine agree_upds' rfl ?_ | exact agree_refl)), rfl⟩
          · replace hg20 := condF hg20 hb19
            refine WL.gyes rfl rfl hb19 ?_
            refine WL.valw (R.mv (v := (str p_s)) h2) ?_
            refine WL.gyes rfl rfl hb19 ?_
            refine WL.valw (R.mv (v := (int y_6)) rfl) ?_
            refine WL.gyes rfl rfl hb19 ?_
            obtain ⟨c21, hc21, hg20⟩ := bindE hg20
            refine WL.valw (R.idxS rfl rfl Tryz.underlying9 hc21) ?_
            refine WL.gyes rfl rfl hb19 ?_
            refine WL.valw (R.gtr8 (a := c21) (b := 57) rfl rfl) ?_
            refine WL.valw (R.pickF rfl hb19 rfl) ?_
            exact WL.nil ⟨(congrArg boo (Option.some.inj hg20)), (by repeat (first | refine agree_upd rfl ?_ | refine agree_upds' rfl ?_ | exact agree_refl)), rfl⟩
        · intro us
          refine WL.nil ?_
          rcases condE hy13 with ⟨hc23, hy13⟩ | ⟨hc23, hy13⟩
          · refine WP.condT rfl hc23 ?_
            refine WP.seq ?_
            refine WP.region ?_
            refine WL.valw (R.as (v := (int 0)) rfl) ?_
            refine WL.valw (R.as (v := (boo false)) rfl) ?_
            refine WL.nil ?_
            obtain rfl := Option.some.inj hy13
            obtain rfl := hy14
            obtain rfl := Option.some.inj h
            refine WP.ret (Out.two rfl S rfl rfl ?_)
            exact rfl
          · refine WP.condF rfl hc23 ?_
            refine WP.skip ?_
            refine WP.region ?_
            refine WL.valw (R.mv (v := (int n_3)) h4) ?_
            refine WL.valw (R.mul rfl rfl) ?_
            refine WL.valw (R.mv (v := (str p_s)) h2) ?_
            refine WL.valw (R.mv (v := (int y_6)) rfl) ?_
            obtain ⟨c24, hc24, hy13⟩ := bindE hy13
            refine WL.valw (R.idxS rfl rfl Tryz.underlying9 hc24) ?_
            refine WL.valw (R.sub8 (a := c24) (b := 48) rfl rfl) ?_
            refine WL.valw (R.i64of8 (a := c24 - 48) rfl Tryz.underlying5 Tryz.underlying2) ?_
            refine WL.valw (R.add rfl rfl) ?_
            refine WL.valw (R.min rfl rfl) ?_
            refine WL.valw (R.as (v := (int (if 2147483647 < (wr ((wr (10 * n_3)) + ((c24 - 48).toNat : Int))) then 2147483647 else (wr ((wr (10 * n_3)) + ((c24 - 48).toNat : Int)))))) rfl) ?_
            refine WL.nil ?_
            refine WP.region ?_
            refine WL.valw (R.add h7 rfl) ?_
            refine WL.valw (R.mv (v := (int (wr (y_6 + 1)))) rfl) ?_
            refine WL.nil ?_
            obtain rfl := Option.some.inj hy13
            exact ⟨rfl, ⟨H1, h2, rfl, h5, rfl, S⟩⟩
      · refine WP.condF rfl hc17 ?_
        refine WP.exit ?_
        obtain rfl := Option.some.inj hy13
        obtain rfl := hy14
        exact ⟨H1, h2, h4, S⟩
  · intro f w hM
    rcases r15 with n_10 | e
    · obtain ⟨H8, h9, h11, S⟩ := hM
      refine WP.seq ?_
      refine WP.region ?_
      refine WL.valw (R.mv (v := (int n_10)) h11) ?_
      refine WL.valw (R.mv (v := (str p_s)) h9) ?_
      refine WL.valw (R.neqS (a := p_s) (b := []) rfl rfl) ?_
      refine WL.valw (R.as (v := (int n_10)) rfl) ?_
      refine WL.valw (R.as (v := (boo (p_s != []))) rfl) ?_
      refine WL.nil ?_
      obtain rfl := Option.some.inj h
      refine WP.ret (Out.two rfl S rfl rfl ?_)
      exact rfl
    · exact hM.elim
set_option maxRecDepth 10000 in
set_option maxHeartbeats 4000000 in
theorem cachecontrol_number_ok {w0 : World} {H0 : Hp} (hw : Holds w0 H0) (p_d : Gcachecontrol_directive) (p_without : Int) (p_broken : Int) {r : Int} (h : cachecontrol_number p_d p_without p_broken = some r) :
    Con Tryz.prog 33 [(agg [(int p_d.fform), (str p_d.fvalue)]), (int p_without), (int p_broken)] w0 H0 (fun H' v => v = (int r)) := by
  refine Con.mk (N := 30) Tryz.func33 rfl rfl (by kernel_rfl) rfl ?_
  have S := St.start hw
  refine WP.seq ?_
  refine WP.region ?_
  refine W.box [(int p_d.fform), (str p_d.fvalue)] S rfl rfl ?_
  intro b1 w2 S
  refine WL.valw (R.as (v := (int 0)) rfl) ?_
  refine WL.nil ?_
  refine WP.seq ?_
  refine WP.region ?_
  refine WL.valw (R.fieldB rfl fld55_1) ?_
  refine WL.valw (R.loadB (i := 0) (v := (str p_d.fvalue)) S rfl rfl lay9 rfl) ?_
  obtain ⟨r3, hr3, h⟩ := bindE h
  refine W.call S rfl (ascii_Number_ok S.holds p_d.fvalue hr3) ?_
  rintro v4 w5 H6 hle7 S rfl
  refine WL.valw (R.mv (v := (.tuple ⟨[(int r3.1), (boo r3.2)]⟩)) rfl) ?_
  refine WL.valw (R.ext rfl rfl) ?_
  refine WL.valw (R.ext rfl rfl) ?_
  refine WL.valw (R.as (v := (int r3.1)) rfl) ?_
  refine WL.valw (R.as (v := (boo r3.2)) rfl) ?_
  refine WL.nil ?_
  refine WP.seq ?_
  refine WP.block ?_
  refine WP.seq ?_
  refine WP.region ?_
  refine WL.valw (R.fieldB rfl fld55_0) ?_
  refine WL.valw (R.loadB (i := 0) (v := (int p_d.fform)) S rfl rfl lay3 rfl) ?_
  refine WL.valw (R.eql rfl rfl) ?_
  refine WL.valw (R.as (v := (boo (p_d.fform == 0))) rfl) ?_
  refine WL.nil ?_
  rcases condE h with ⟨hc8, h⟩ | ⟨hc8, h⟩
  · refine WP.condT rfl hc8 ?_
    refine WP.seq ?_
    refine WP.region ?_
    refine WL.valw (R.mv (v := (int p_without)) rfl) ?_
    refine WL.valw (R.as (v := (int p_without)) rfl) ?_
    refine WL.nil ?_
    obtain rfl := Option.some.inj h
    refine WP.ret (Out.one rfl S rfl ?_)
    exact rfl
  · refine WP.condF rfl hc8 ?_
    refine WP.seq ?_
    refine WP.region ?_
    refine WL.valw (R.fieldB rfl fld55_0) ?_
    refine WL.valw (R.loadB (i := 0) (v := (int p_d.fform)) S rfl rfl lay3 rfl) ?_
    refine WL.valw (R.eql rfl rfl) ?_
    refine WL.valw (R.mv (v := (boo (p_d.fform == 2))) rfl) ?_
    refine WL.grp 3 [25, 26] 27 (boo ((p_d.fform == 2) || (!r3.2))) ?_ ?_
    · rcases boolE (p_d.fform == 2) with hb9 | hb9
      · refine WL.gno rfl rfl hb9 ?_
        refine WL.gno rfl rfl hb9 ?_
        refine WL.valw (R.pickT rfl hb9 rfl) ?_
        exact WL.nil ⟨(orT hb9), (by repeat (first | refine agree_upd rfl ?_ | refine agree_upds' rfl ?_ | exact agree_refl)), rfl⟩
      · refine WL.gyes rfl rfl hb9 ?_
        refine WL.valw (R.mv (v := (boo r3.2)) rfl) ?_
        refine WL.gyes rfl rfl hb9 ?_
        refine WL.valw (R.not rfl) ?_
        refine WL.valw (R.pickF rfl hb9 rfl) ?_
        exact WL.nil ⟨(orF hb9), (by repeat (first | refine agree_upd rfl ?_ | refine agree_upds' rfl ?_ | exact agree_refl)), rfl⟩
    · intro us
      refine WL.valw (R.as (v := (boo ((p_d.fform == 2) || (!r3.2)))) rfl) ?_
      refine WL.nil ?_
      rcases condE h with ⟨hc11, h⟩ | ⟨hc11, h⟩
      · refine WP.condT rfl hc11 ?_
        refine WP.seq ?_
        refine WP.region ?_
        refine WL.valw (R.mv (v := (int p_broken)) rfl) ?_
        refine WL.valw (R.as (v := (int p_broken)) rfl) ?_
        refine WL.nil ?_
        obtain rfl := Option.some.inj h
        refine WP.ret (Out.one rfl S rfl ?_)
        exact rfl
      · refine WP.condF rfl hc11 ?_
        refine WP.skip ?_
        refine WP.seq ?_
        refine WP.region ?_
        refine WL.valw (R.mv (v := (int r3.1)) rfl) ?_
        refine WL.valw (R.as (v := (int r3.1)) rfl) ?_
        refine WL.nil ?_
        obtain rfl := Option.some.inj h
        refine WP.ret (Out.one rfl S rfl ?_)
        exact rfl
end Go.Proofs
