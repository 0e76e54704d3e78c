/- A part of the proof of laws of the seat: written by program over the translation. -/
import Derived.Test.YteaklcnfmkaepaaDoorGenD3
namespace Go.Proofs
open Go.Eng Go.Eng.Pure
set_option linter.unusedVariables false
set_option maxRecDepth 10000 in
set_option maxHeartbeats 4000000 in
theorem ref01_TokenByte_ok {w0 : World} {H0 : Hp} (hw : Holds w0 H0) (p_c : UInt8) {r : Bool} (h : ref01_TokenByte p_c = some r) :
    Con Tryd.prog 49 [(byt p_c)] w0 H0 (fun H' v => v = (boo r)) := by
  refine Con.mk (N := 34) Tryd.func49 rfl rfl (by kernel_rfl) rfl ?_
  have S := St.start hw
  refine WP.seq ?_
  refine WP.region ?_
  refine WL.valw (R.as (v := (boo false)) rfl) ?_
  refine WL.nil ?_
  refine WP.seq ?_
  refine WP.seq ?_
  refine WP.region ?_
  refine WL.valw (R.mv (v := (byt p_c)) rfl) ?_
  refine WL.valw (R.geq8 (a := p_c) (b := 97) rfl rfl) ?_
  refine WL.valw (R.mv (v := (boo (decide (97 ≤ p_c)))) rfl) ?_
  refine WL.grp 3 [7, 8] 9 (boo ((decide (97 ≤ p_c)) && (decide (p_c ≤ 122)))) ?_ ?_
  · rcases boolE (decide (97 ≤ p_c)) with hb1 | hb1
    · refine WL.gyes rfl rfl hb1 ?_
      refine WL.valw (R.mv (v := (byt p_c)) rfl) ?_
      refine WL.gyes rfl rfl hb1 ?_
      refine WL.valw (R.leq8 (a := p_c) (b := 122) rfl rfl) ?_
      refine WL.valw (R.pickT rfl hb1 rfl) ?_
      exact WL.nil ⟨(andT hb1), (by repeat (first | refine agree_upd rfl ?_ | refine agree_upds' rfl ?_ | exact agree_refl)), rfl⟩
    · refine WL.gno rfl rfl hb1 ?_
      refine WL.gno rfl rfl hb1 ?_
      refine WL.valw (R.pickF rfl hb1 rfl) ?_
      exact WL.nil ⟨(andF hb1), (by repeat (first | refine agree_upd rfl ?_ | refine agree_upds' rfl ?_ | exact agree_refl)), rfl⟩
  · intro us
    refine WL.valw (R.mv (v := (boo ((decide (97 ≤ p_c)) && (decide (p_c ≤ 122))))) rfl) ?_
    refine WL.grp 7 [11, 12, 13, 14, 15, 16] 17 (boo (((decide (97 ≤ p_c)) && (decide (p_c ≤ 122))) || ((decide (65 ≤ p_c)) && (decide (p_c ≤ 90))))) ?_ ?_
    · rcases boolE ((decide (97 ≤ p_c)) && (decide (p_c ≤ 122))) with hb3 | hb3
      · refine WL.gno rfl rfl hb3 ?_
        refine WL.gno rfl rfl hb3 ?_
        refine WL.gno rfl rfl hb3 ?_
        refine WL.gund rfl rfl ?_
        refine WL.gund rfl rfl ?_
        refine WL.gno rfl rfl hb3 ?_
        refine WL.valw (R.pickT rfl hb3 rfl) ?_
        exact WL.nil ⟨(orT hb3), (by repeat (first | refine agree_upd rfl ?_ | refine agree_upds' rfl ?_ | exact agree_refl)), rfl⟩
      · refine WL.gyes rfl rfl hb3 ?_
        refine WL.valw (R.mv (v := (byt p_c)) rfl) ?_
        refine WL.gyes rfl rfl hb3 ?_
        refine WL.valw (R.geq8 (a := p_c) (b := 65) rfl rfl) ?_
        refine WL.gyes rfl rfl hb3 ?_
        refine WL.valw (R.mv (v := (boo (decide (65 ≤ p_c)))) rfl) ?_
        refine WL.grp 3 [14, 15] 16 (boo ((decide (65 ≤ p_c)) && (decide (p_c ≤ 90)))) ?_ ?_
        · rcases boolE (decide (65 ≤ p_c)) with hb5 | hb5
          · refine WL.gyes rfl rfl hb5 ?_
            refine WL.valw (R.mv (v := (byt p_c)) rfl) ?_
            refine WL.gyes rfl rfl hb5 ?_
            refine WL.valw (R.leq8 (a := p_c) (b := 90) rfl rfl) ?_
            refine WL.gyes rfl rfl hb3 ?_
            refine WL.valw (R.pickT rfl hb5 rfl) ?_
            exact WL.nil ⟨(andT hb5), (by repeat (first | refine agree_upd rfl ?_ | refine agree_upds' rfl ?_ | exact agree_refl)), rfl⟩
          · refine WL.gno rfl rfl hb5 ?_
            refine WL.gno rfl rfl hb5 ?_
            refine WL.gyes rfl rfl hb3 ?_
            refine WL.valw (R.pickF rfl hb5 rfl) ?_
            exact WL.nil ⟨(andF hb5), (by repeat (first | refine agree_upd rfl ?_ | refine agree_upds' rfl ?_ | exact agree_refl)), rfl⟩
        · intro us
          refine WL.valw (R.pickF rfl hb3 rfl) ?_
          exact WL.nil ⟨(orF hb3), (by repeat (first | refine agree_upd rfl ?_ | refine agree_upds' rfl ?_ | exact agree_refl)), rfl⟩
    · intro us
      refine WL.valw (R.mv (v := (boo (((decide (97 ≤ p_c)) && (decide (p_c ≤ 122))) || ((decide (65 ≤ p_c)) && (decide (p_c ≤ 90)))))) rfl) ?_
      refine WL.grp 7 [19, 20, 21, 22, 23, 24] 25 (boo ((((decide (97 ≤ p_c)) && (decide (p_c ≤ 122))) || ((decide (65 ≤ p_c)) && (decide (p_c ≤ 90)))) || ((decide (48 ≤ p_c)) && (decide (p_c ≤ 57))))) ?_ ?_
      · rcases boolE (((decide (97 ≤ p_c)) && (decide (p_c ≤ 122))) || ((decide (65 ≤ p_c)) && (decide (p_c ≤ 90)))) with hb7 | hb7
        · refine WL.gno rfl rfl hb7 ?_
          refine WL.gno rfl rfl hb7 ?_
          refine WL.gno rfl rfl hb7 ?_
          refine WL.gund rfl rfl ?_
          refine WL.gund rfl rfl ?_
          refine WL.gno rfl rfl hb7 ?_
          refine WL.valw (R.pickT rfl hb7 rfl) ?_
          exact WL.nil ⟨(orT hb7), (by repeat (first | refine agree_upd rfl ?_ | refine agree_upds' rfl ?_ | exact agree_refl)), rfl⟩
        · refine WL.gyes rfl rfl hb7 ?_
          refine WL.valw (R.mv (v := (byt p_c)) rfl) ?_
          refine WL.gyes rfl rfl hb7 ?_
          refine WL.valw (R.geq8 (a := p_c) (b := 48) rfl rfl) ?_
          refine WL.gyes rfl rfl hb7 ?_
          refine WL.valw (R.mv (v := (boo (decide (48 ≤ p_c)))) rfl) ?_
          refine WL.grp 3 [22, 23] 24 (boo ((decide (48 ≤ p_c)) && (decide (p_c ≤ 57)))) ?_ ?_
          · rcases boolE (decide (48 ≤ p_c)) with hb9 | hb9
            · refine WL.gyes rfl rfl hb9 ?_
              refine WL.valw (R.mv (v := (byt p_c)) rfl) ?_
              refine WL.gyes rfl rfl hb9 ?_
              refine WL.valw (R.leq8 (a := p_c) (b := 57) rfl rfl) ?_
              refine WL.gyes rfl rfl hb7 ?_
              refine WL.valw (R.pickT rfl hb9 rfl) ?_
              exact WL.nil ⟨(andT hb9), (by repeat (first | refine agree_upd rfl ?_ | refine agree_upds' rfl ?_ | exact agree_refl)), rfl⟩
            · refine WL.gno rfl rfl hb9 ?_
              refine WL.gno rfl rfl hb9 ?_
              refine WL.gyes rfl rfl hb7 ?_
              refine WL.valw (R.pickF rfl hb9 rfl) ?_
              exact WL.nil ⟨(andF hb9), (by repeat (first | refine agree_upd rfl ?_ | refine agree_upds' rfl ?_ | exact agree_refl)), rfl⟩
          · intro us
            refine WL.valw (R.pickF rfl hb7 rfl) ?_
            exact WL.nil ⟨(orF hb7), (by repeat (first | refine agree_upd rfl ?_ | refine agree_upds' rfl ?_ | exact agree_refl)), rfl⟩
      · intro us
        refine WL.nil ?_
        rcases condE h with ⟨hc11, h⟩ | ⟨hc11, h⟩
        · refine WP.condT rfl hc11 ?_
          refine WP.seq ?_
          refine WP.region ?_
          refine WL.valw (R.as (v := (boo true)) rfl) ?_
          refine WL.nil ?_
          obtain rfl := Option.some.inj h
          refine WP.ret (Out.one rfl S rfl ?_)
          exact rfl
        · refine WP.condF rfl hc11 ?_
          refine WP.skip ?_
          refine WP.seq ?_
          refine WP.seq ?_
          refine WP.region ?_
          refine WL.valw (R.as (v := (int 0)) rfl) ?_
          refine WL.nil ?_
          obtain ⟨r20, hr21, h⟩ := bindE h
          refine WP.cut (fun f w => match r20 with | .inl _ => ∃ (H16 : Hp), St w0 H0 w H16 [] | .inr _ => False) ?_ ?_
          · refine WP.block ?_
            refine WP.loopM (ref01_TokenByte_L0 p_c) (fun s f w => match s with | i_14 => ∃ (H12 : Hp), f 0 = (byt p_c) ∧ f 3 = (int i_14) ∧ St w0 H0 w H12 []) 0 r20 hr21 ?_ ?_
            · exact ⟨H0, rfl, rfl, S⟩
            · intro i_14 f w hI y17 hy18 hy19
              obtain ⟨H12, h13, h15, S⟩ := hI
              refine WP.seq ?_
              refine WP.seq ?_
              refine WP.region ?_
              refine WL.valw (R.mv (v := (int i_14)) h15) ?_
              refine WL.valw (R.lss rfl rfl) ?_
              refine WL.nil ?_
              rcases condE hy18 with ⟨hc22, hy18⟩ | ⟨hc22, hy18⟩
              · refine WP.condT rfl hc22 ?_
                refine WP.skip ?_
                refine WP.seq ?_
                refine WP.block ?_
                refine WP.seq ?_
                refine WP.region ?_
                refine WL.valw (R.mv (v := (int i_14)) h15) ?_
                obtain ⟨c23, hc23, hy18⟩ := bindE hy18
                refine WL.valw (R.idxS rfl rfl Tryd.underlying9 hc23) ?_
                refine WL.valw (R.mv (v := (byt p_c)) h13) ?_
                refine WL.valw (R.eql8 (a := c23) (b := p_c) rfl rfl) ?_
                refine WL.nil ?_
                rcases condE hy18 with ⟨hc24, hy18⟩ | ⟨hc24, hy18⟩
                · refine WP.condT rfl hc24 ?_
                  refine WP.seq ?_
                  refine WP.region ?_
                  refine WL.valw (R.as (v := (boo true)) rfl) ?_
                  refine WL.nil ?_
                  obtain rfl := Option.some.inj hy18
                  obtain rfl := hy19
                  obtain rfl := Option.some.inj h
                  refine WP.ret (Out.one rfl S rfl ?_)
                  exact rfl
                · refine WP.condF rfl hc24 ?_
                  refine WP.skip ?_
                  refine WP.region ?_
                  refine WL.valw (R.mv (v := (int i_14)) h15) ?_
                  refine WL.valw (R.add rfl rfl) ?_
                  refine WL.valw (R.as (v := (int (wr (i_14 + 1)))) rfl) ?_
                  refine WL.nil ?_
                  obtain rfl := Option.some.inj hy18
                  exact ⟨rfl, ⟨H12, h13, rfl, S⟩⟩
              · refine WP.condF rfl hc22 ?_
                refine WP.exit ?_
                obtain rfl := Option.some.inj hy18
                obtain rfl := hy19
                exact ⟨H12, S⟩
          · intro f w hM
            rcases r20 with _ | e
            · obtain ⟨H16, S⟩ := hM
              refine WP.seq ?_
              refine WP.region ?_
              refine WL.valw (R.as (v := (boo false)) rfl) ?_
              refine WL.nil ?_
              obtain rfl := Option.some.inj h
              refine WP.ret (Out.one rfl S rfl ?_)
              exact rfl
            · exact hM.elim
set_option maxRecDepth 10000 in
set_option maxHeartbeats 4000000 in
theorem ref01_Token_ok {w0 : World} {H0 : Hp} (hw : Holds w0 H0) (p_s : Str) {r : Bool} (h : ref01_Token p_s = some r) :
    Con Tryd.prog 22 [(str p_s)] w0 H0 (fun H' v => v = (boo r)) := by
  refine Con.mk (N := 17) Tryd.func22 rfl rfl (by kernel_rfl) rfl ?_
  have S := St.start hw
  refine WP.seq ?_
  refine WP.region ?_
  refine WL.valw (R.as (v := (boo false)) rfl) ?_
  refine WL.nil ?_
  refine WP.seq ?_
  refine WP.seq ?_
  refine WP.region ?_
  refine WL.valw (R.as (v := (int 0)) rfl) ?_
  refine WL.nil ?_
  obtain ⟨r10, hr11, h⟩ := bindE h
  refine WP.cut (fun f w => match r10 with | .inl _ => ∃ (H5 : Hp), f 0 = (str p_s) ∧ St w0 H0 w H5 [] | .inr _ => False) ?_ ?_
  · refine WP.block ?_
    refine WP.loopM (ref01_Token_L0 p_s) (fun s f w => match s with | i_3 => ∃ (H1 : Hp), f 0 = (str p_s) ∧ f 3 = (int i_3) ∧ St w0 H0 w H1 []) 0 r10 hr11 ?_ ?_
    · exact ⟨H0, rfl, rfl, S⟩
    · intro i_3 f w hI y7 hy8 hy9
      obtain ⟨H1, h2, h4, S⟩ := hI
      refine WP.seq ?_
      refine WP.seq ?_
      refine WP.region ?_
      refine WL.valw (R.mv (v := (int i_3)) h4) ?_
      refine WL.valw (R.mv (v := (str p_s)) h2) ?_
      refine WL.valw (R.lenS (a := p_s) rfl Tryd.underlying9) ?_
      refine WL.valw (R.lss rfl rfl) ?_
      refine WL.nil ?_
      rcases condE hy8 with ⟨hc12, hy8⟩ | ⟨hc12, hy8⟩
      · refine WP.condT rfl hc12 ?_
        refine WP.skip ?_
        refine WP.seq ?_
        refine WP.block ?_
        refine WP.seq ?_
        refine WP.region ?_
        refine WL.valw (R.mv (v := (str p_s)) h2) ?_
        refine WL.valw (R.mv (v := (int i_3)) h4) ?_
        obtain ⟨c13, hc13, hy8⟩ := bindE hy8
        refine WL.valw (R.idxS rfl rfl Tryd.underlying9 hc13) ?_
        obtain ⟨r14, hr14, hy8⟩ := bindE hy8
        refine W.call S rfl (ref01_TokenByte_ok S.holds c13 hr14) ?_
        rintro v15 w16 H17 hle18 S rfl
        refine WL.valw (R.not rfl) ?_
        refine WL.nil ?_
        rcases condE hy8 with ⟨hc19, hy8⟩ | ⟨hc19, hy8⟩
        · refine WP.condT rfl hc19 ?_
          refine WP.seq ?_
          refine WP.region ?_
          refine WL.valw (R.as (v := (boo false)) rfl) ?_
          refine WL.nil ?_
          obtain rfl := Option.some.inj hy8
          obtain rfl := hy9
          obtain rfl := Option.some.inj h
          refine WP.ret (Out.one rfl S rfl ?_)
          exact rfl
        · refine WP.condF rfl hc19 ?_
          refine WP.skip ?_
          refine WP.region ?_
          refine WL.valw (R.mv (v := (int i_3)) h4) ?_
          refine WL.valw (R.add rfl rfl) ?_
          refine WL.valw (R.as (v := (int (wr (i_3 + 1)))) rfl) ?_
          refine WL.nil ?_
          obtain rfl := Option.some.inj hy8
          exact ⟨rfl, ⟨H17, h2, rfl, S⟩⟩
      · refine WP.condF rfl hc12 ?_
        refine WP.exit ?_
        obtain rfl := Option.some.inj hy8
        obtain rfl := hy9
        exact ⟨H1, h2, S⟩
  · intro f w hM
    rcases r10 with _ | e
    · obtain ⟨H5, h6, S⟩ := hM
      refine WP.seq ?_
      refine WP.region ?_
      refine WL.valw (R.mv (v := (str p_s)) h6) ?_
      refine WL.valw (R.neqS (a := p_s) (b := []) rfl rfl) ?_
      refine WL.valw (R.as (v := (boo (p_s != []))) rfl) ?_
      refine WL.nil ?_
      obtain rfl := Option.some.inj h
      refine WP.ret (Out.one rfl S rfl ?_)
      exact rfl
    · exact hM.elim
set_option maxRecDepth 10000 in
set_option maxHeartbeats 4000000 in
theorem keep_Keys_ok {w0 : World} {H0 : Hp} (hw : Holds w0 H0) (p_l : (List (List Str))) {vp_l : Value} (Rp_l : Sl (α := (List Str)) H0 vp_l p_l) {r : Bool} (h : keep_Keys p_l = some r) :
    Con Tryd.prog 51 [vp_l] w0 H0 (fun H' v => v = (boo r)) := by
  refine Con.mk (N := 23) Tryd.func51 rfl rfl (by kernel_rfl) rfl ?_
  have S := St.start hw
  refine WP.seq ?_
  refine WP.region ?_
  refine WL.valw (R.as (v := (boo false)) rfl) ?_
  refine WL.nil ?_
  refine WP.seq ?_
  refine WP.seq ?_
  refine WP.region ?_
  refine WL.valw (R.as (v := (int 0)) rfl) ?_
  refine WL.nil ?_
  obtain ⟨r10, hr11, h⟩ := bindE h
  refine WP.cut (fun f w => match r10 with | .inl _ => ∃ (H5 : Hp), f 0 = vp_l ∧ Sl (α := (List Str)) H5 vp_l p_l ∧ St w0 H0 w H5 [] | .inr _ => False) ?_ ?_
  · refine WP.block ?_
    refine WP.loopM (keep_Keys_L0 p_l) (fun s f w => match s with | i_3 => ∃ (H1 : Hp), f 0 = vp_l ∧ f 3 = (int i_3) ∧ Sl (α := (List Str)) H1 vp_l p_l ∧ St w0 H0 w H1 []) 0 r10 hr11 ?_ ?_
    · exact ⟨H0, rfl, rfl, Rp_l, S⟩
    · intro i_3 f w hI y7 hy8 hy9
      obtain ⟨H1, h2, h4, Rp_l, S⟩ := hI
      refine WP.seq ?_
      refine WP.seq ?_
      refine WP.region ?_
      refine WL.valw (R.mv (v := (int i_3)) h4) ?_
      refine WL.valw (R.mv (v := vp_l) h2) ?_
      refine WL.valw (R.lenL (α := (List Str)) (xs := p_l) (H := H1) Rp_l rfl Tryd.underlying39) ?_
      refine WL.valw (R.lss rfl rfl) ?_
      refine WL.valw (R.mv (v := (boo (decide (i_3 < (p_l.length : Int))))) rfl) ?_
      refine WL.grp 3 [9, 10] 11 (boo ((decide (i_3 < (p_l.length : Int))) && (decide (i_3 < 11)))) ?_ ?_
      · rcases boolE (decide (i_3 < (p_l.length : Int))) with hb12 | hb12
        · refine WL.gyes rfl rfl hb12 ?_
          refine WL.valw (R.mv (v := (int i_3)) h4) ?_
          refine WL.gyes rfl rfl hb12 ?_
          refine WL.valw (R.lss rfl rfl) ?_
          refine WL.valw (R.pickT rfl hb12 rfl) ?_
          exact WL.nil ⟨(andT hb12), (by repeat (first | refine agree_upd rfl ?_ | refine agree_upds' rfl ?_ | exact agree_refl)), rfl⟩
        · refine WL.gno rfl rfl hb12 ?_
          refine WL.gno rfl rfl hb12 ?_
          refine WL.valw (R.pickF rfl hb12 rfl) ?_
          exact WL.nil ⟨(andF hb12), (by repeat (first | refine agree_upd rfl ?_ | refine agree_upds' rfl ?_ | exact agree_refl)), rfl⟩
      · intro us
        refine WL.nil ?_
        rcases condE hy8 with ⟨hc14, hy8⟩ | ⟨hc14, hy8⟩
        · refine WP.condT rfl hc14 ?_
          refine WP.skip ?_
          refine WP.seq ?_
          refine WP.block ?_
          refine WP.seq ?_
          refine WP.region ?_
          refine WL.valw (R.mv (v := vp_l) h2) ?_
          refine WL.valw (R.mv (v := (int i_3)) h4) ?_
          obtain ⟨x15, hx15, hy8⟩ := bindE hy8
          refine W.idx (α := (List Str)) Rp_l rfl rfl el39 hx15 ?_
          rintro a16 _ hA17 ⟨v18, rfl, R19⟩
          refine WL.valw (R.loadH (v := v18) S rfl hA17 lay22 rfl) ?_
          obtain ⟨r20, hr20, hy8⟩ := bindE hy8
          refine W.call S rfl (keep_Strings_ok S.holds x15 R19 hr20) ?_
          rintro v21 w22 H23 hle24 S rfl
          have Rp_l := Sl.mono Rp_l hle24
          have hA17 := At.mono hA17 hle24 (by simp)
          have R19 := Sl.mono R19 hle24
          refine WL.valw (R.not rfl) ?_
          refine WL.nil ?_
          rcases condE hy8 with ⟨hc25, hy8⟩ | ⟨hc25, hy8⟩
          · refine WP.condT rfl hc25 ?_
            refine WP.seq ?_
            refine WP.region ?_
            refine WL.valw (R.as (v := (boo false)) rfl) ?_
            refine WL.nil ?_
            obtain rfl := Option.some.inj hy8
            obtain rfl := hy9
            obtain rfl := Option.some.inj h
            refine WP.ret (Out.one rfl S rfl ?_)
            exact rfl
          · refine WP.condF rfl hc25 ?_
            refine WP.skip ?_
            refine WP.region ?_
            refine WL.valw (R.mv (v := (int i_3)) h4) ?_
            refine WL.valw (R.add rfl rfl) ?_
            refine WL.valw (R.as (v := (int (wr (i_3 + 1)))) rfl) ?_
            refine WL.nil ?_
            obtain rfl := Option.some.inj hy8
            exact ⟨rfl, ⟨H23, h2, rfl, Rp_l, S⟩⟩
        · refine WP.condF rfl hc14 ?_
          refine WP.exit ?_
          obtain rfl := Option.some.inj hy8
          obtain rfl := hy9
          exact ⟨H1, h2, Rp_l, S⟩
  · intro f w hM
    rcases r10 with _ | e
    · obtain ⟨H5, h6, Rp_l, S⟩ := hM
      refine WP.seq ?_
      refine WP.region ?_
      refine WL.valw (R.mv (v := vp_l) h6) ?_
      refine WL.valw (R.lenL (α := (List Str)) (xs := p_l) (H := H5) Rp_l rfl Tryd.underlying39) ?_
      refine WL.valw (R.leq rfl rfl) ?_
      refine WL.valw (R.as (v := (boo (decide ((p_l.length : Int) ≤ 10)))) rfl) ?_
      refine WL.nil ?_
      obtain rfl := Option.some.inj h
      refine WP.ret (Out.one rfl S rfl ?_)
      exact rfl
    · exact hM.elim
set_option maxRecDepth 10000 in
set_option maxHeartbeats 4000000 in
theorem keep_Entry_ok {w0 : World} {H0 : Hp} (hw : Holds w0 H0) (p_e : GEntry) {vp_e0 : Value} {vp_e1 : Value} {vp_e2 : Value} {vp_e4 : Value} (Rp_e0 : Sl (α := (List Str)) H0 vp_e0 p_e.fKeys) (Rp_e1 : Sl (α := Str) H0 vp_e1 p_e.fVary) (Rp_e2 : Sl (α := Str) H0 vp_e2 p_e.fSnapshot) (Rp_e4 : Sl (α := GField) H0 vp_e4 p_e.fFields) {r : Bool} (h : keep_Entry p_e = some r) :
    Con Tryd.prog 25 [(agg [vp_e0, vp_e1, vp_e2, (str p_e.fReason), vp_e4, (str p_e.fBody), (int p_e.fRequested), (int p_e.fReceived)])] w0 H0 (fun H' v => v = (boo r)) := by
  refine Con.mk (N := 33) Tryd.func25 rfl rfl (by kernel_rfl) rfl ?_
  have S := St.start hw
  refine WP.seq ?_
  refine WP.region ?_
  refine W.box [vp_e0, vp_e1, vp_e2, (str p_e.fReason), vp_e4, (str p_e.fBody), (int p_e.fRequested), (int p_e.fReceived)] S rfl rfl ?_
  intro b1 w2 S
  refine WL.valw (R.as (v := (boo false)) rfl) ?_
  refine WL.nil ?_
  refine WP.seq ?_
  refine WP.region ?_
  refine WL.valw (R.fieldB rfl fld41_0) ?_
  refine WL.valw (R.loadB (i := 0) (v := vp_e0) S rfl rfl lay39 rfl) ?_
  obtain ⟨r3, hr3, h⟩ := bindE h
  refine W.call S rfl (keep_Keys_ok S.holds p_e.fKeys Rp_e0 hr3) ?_
  rintro v4 w5 H6 hle7 S rfl
  have Rp_e0 := Sl.mono Rp_e0 hle7
  have Rp_e1 := Sl.mono Rp_e1 hle7
  have Rp_e2 := Sl.mono Rp_e2 hle7
  have Rp_e4 := Sl.mono Rp_e4 hle7
  refine WL.valw (R.mv (v := (boo r3)) rfl) ?_
  obtain ⟨b15, hg9, h⟩ := bindE h
  refine WL.grpw 4 [7, 8, 9] 10 (boo b15) (fun w => ∃ H' : Hp, H6.le H' ∧ St w0 H0 w H' [.box b1 41 [vp_e0, vp_e1, vp_e2, (str p_e.fReason), vp_e4, (str p_e.fBody), (int p_e.fRequested), (int p_e.fReceived)]]) ?_ ?_
  · rcases boolE r3 with hb8 | hb8
    · replace hg9 := condT hg9 hb8
      refine WL.gyes rfl rfl hb8 ?_
      refine WL.valw (R.fieldB rfl fld41_1) ?_
      refine WL.gyes rfl rfl hb8 ?_
      refine WL.valw (R.loadB (i := 0) (v := vp_e1) S rfl rfl lay22 rfl) ?_
      refine WL.gyes rfl rfl hb8 ?_
      obtain ⟨r10, hr10, hg9⟩ := bindE hg9
      refine W.call S rfl (keep_Strings_ok S.holds p_e.fVary Rp_e1 hr10) ?_
      rintro v11 w12 H13 hle14 S rfl
      have Rp_e0 := Sl.mono Rp_e0 hle14
      have Rp_e1 := Sl.mono Rp_e1 hle14
      have Rp_e2 := Sl.mono Rp_e2 hle14
      have Rp_e4 := Sl.mono Rp_e4 hle14
      refine WL.valw (R.pickT rfl hb8 rfl) ?_
      exact WL.nil ⟨(congrArg boo (Option.some.inj hg9)), (by repeat (first | refine agree_upd rfl ?_ | refine agree_upds' rfl ?_ | exact agree_refl)), ⟨H13, hle14, S⟩⟩
    · replace hg9 := condF hg9 hb8
      refine WL.gno rfl rfl hb8 ?_
      refine WL.gno rfl rfl hb8 ?_
      refine WL.gno rfl rfl hb8 ?_
      refine WL.valw (R.pickF rfl hb8 rfl) ?_
      exact WL.nil ⟨(congrArg boo (Option.some.inj hg9)), (by repeat (first | refine agree_upd rfl ?_ | refine agree_upds' rfl ?_ | exact agree_refl)), ⟨H6, (Hp.le.refl _), S⟩⟩
  · intro us w17 ⟨H16, hle18, S⟩
    have Rp_e0 := Sl.mono Rp_e0 hle18
    have Rp_e1 := Sl.mono Rp_e1 hle18
    have Rp_e2 := Sl.mono Rp_e2 hle18
    have Rp_e4 := Sl.mono Rp_e4 hle18
    refine WL.valw (R.mv (v := (boo b15)) rfl) ?_
    obtain ⟨b26, hg20, h⟩ := bindE h
    refine WL.grpw 4 [12, 13, 14] 15 (boo b26) (fun w => ∃ H' : Hp, H16.le H' ∧ St w0 H0 w H' [.box b1 41 [vp_e0, vp_e1, vp_e2, (str p_e.fReason), vp_e4, (str p_e.fBody), (int p_e.fRequested), (int p_e.fReceived)]]) ?_ ?_
    · rcases boolE b15 with hb19 | hb19
      · replace hg20 := condT hg20 hb19
        refine WL.gyes rfl rfl hb19 ?_
        refine WL.valw (R.fieldB rfl fld41_2) ?_
        refine WL.gyes rfl rfl hb19 ?_
        refine WL.valw (R.loadB (i := 0) (v := vp_e2) S rfl rfl lay22 rfl) ?_
        refine WL.gyes rfl rfl hb19 ?_
        obtain ⟨r21, hr21, hg20⟩ := bindE hg20
        refine W.call S rfl (keep_Strings_ok S.holds p_e.fSnapshot Rp_e2 hr21) ?_
        rintro v22 w23 H24 hle25 S rfl
        have Rp_e0 := Sl.mono Rp_e0 hle25
        have Rp_e1 := Sl.mono Rp_e1 hle25
        have Rp_e2 := Sl.mono Rp_e2 hle25
        have Rp_e4 := Sl.mono Rp_e4 hle25
        refine WL.valw (R.pickT rfl hb19 rfl) ?_
        exact WL.nil ⟨(congrArg boo (Option.some.inj hg20)), (by repeat (first | refine agree_upd rfl ?_ | refine agree_upds' rfl ?_ | exact agree_refl)), ⟨H24, hle25, S⟩⟩
      · replace hg20 := condF hg20 hb19
        refine WL.gno rfl rfl hb19 ?_
        refine WL.gno rfl rfl hb19 ?_
        refine WL.gno rfl rfl hb19 ?_
        refine WL.valw (R.pickF rfl hb19 rfl) ?_
        exact WL.nil ⟨(congrArg boo (Option.some.inj hg20)), (by repeat (first | refine agree_upd rfl ?_ | refine agree_upds' rfl ?_ | exact agree_refl)), ⟨H16, (Hp.le.refl _), S⟩⟩
    · intro us w28 ⟨H27, hle29, S⟩
      have Rp_e0 := Sl.mono Rp_e0 hle29
      have Rp_e1 := Sl.mono Rp_e1 hle29
      have Rp_e2 := Sl.mono Rp_e2 hle29
      have Rp_e4 := Sl.mono Rp_e4 hle29
      refine WL.valw (R.mv (v := (boo b26)) rfl) ?_
      refine WL.grp 5 [17, 18, 19, 20] 21 (boo (b26 && (decide ((p_e.fReason.length : Int) ≤ 100)))) ?_ ?_
      · rcases boolE b26 with hb30 | hb30
        · refine WL.gyes rfl rfl hb30 ?_
          refine WL.valw (R.fieldB rfl fld41_3) ?_
          refine WL.gyes rfl rfl hb30 ?_
          refine WL.valw (R.loadB (i := 0) (v := (str p_e.fReason)) S rfl rfl lay9 rfl) ?_
          refine WL.gyes rfl rfl hb30 ?_
          refine WL.valw (R.lenS (a := p_e.fReason) rfl Tryd.underlying9) ?_
          refine WL.gyes rfl rfl hb30 ?_
          refine WL.valw (R.leq rfl rfl) ?_
          refine WL.valw (R.pickT rfl hb30 rfl) ?_
          exact WL.nil ⟨(andT hb30), (by repeat (first | refine agree_upd rfl ?_ | refine agree_upds' rfl ?_ | exact agree_refl)), rfl⟩
        · refine WL.gno rfl rfl hb30 ?_
          refine WL.gno rfl rfl hb30 ?_
          refine WL.gno rfl rfl hb30 ?_
          refine WL.gno rfl rfl hb30 ?_
          refine WL.valw (R.pickF rfl hb30 rfl) ?_
          exact WL.nil ⟨(andF hb30), (by repeat (first | refine agree_upd rfl ?_ | refine agree_upds' rfl ?_ | exact agree_refl)), rfl⟩
      · intro us
        refine WL.valw (R.mv (v := (boo (b26 && (decide ((p_e.fReason.length : Int) ≤ 100))))) rfl) ?_
        refine WL.grp 5 [23, 24, 25, 26] 27 (boo ((b26 && (decide ((p_e.fReason.length : Int) ≤ 100))) && (decide ((p_e.fBody.length : Int) ≤ 2000)))) ?_ ?_
        · rcases boolE (b26 && (decide ((p_e.fReason.length : Int) ≤ 100))) with hb32 | hb32
          · refine WL.gyes rfl rfl hb32 ?_
            refine WL.valw (R.fieldB rfl fld41_5) ?_
            refine WL.gyes rfl rfl hb32 ?_
            refine WL.valw (R.loadB (i := 0) (v := (str p_e.fBody)) S rfl rfl lay9 rfl) ?_
            refine WL.gyes rfl rfl hb32 ?_
            refine WL.valw (R.lenS (a := p_e.fBody) rfl Tryd.underlying9) ?_
            refine WL.gyes rfl rfl hb32 ?_
            refine WL.valw (R.leq rfl rfl) ?_
            refine WL.valw (R.pickT rfl hb32 rfl) ?_
            exact WL.nil ⟨(andT hb32), (by repeat (first | refine agree_upd rfl ?_ | refine agree_upds' rfl ?_ | exact agree_refl)), rfl⟩
          · refine WL.gno rfl rfl hb32 ?_
            refine WL.gno rfl rfl hb32 ?_
            refine WL.gno rfl rfl hb32 ?_
            refine WL.gno rfl rfl hb32 ?_
            refine WL.valw (R.pickF rfl hb32 rfl) ?_
            exact WL.nil ⟨(andF hb32), (by repeat (first | refine agree_upd rfl ?_ | refine agree_upds' rfl ?_ | exact agree_refl)), rfl⟩
        · intro us
          refine WL.valw (R.mv (v := (boo ((b26 && (decide ((p_e.fReason.length : Int) ≤ 100))) && (decide ((p_e.fBody.length : Int) ≤ 2000))))) rfl) ?_
          obtain ⟨b41, hg35, h⟩ := bindE h
          refine WL.grpw 4 [29, 30, 31] 32 (boo b41) (fun w => ∃ H' : Hp, H27.le H' ∧ St w0 H0 w H' [.box b1 41 [vp_e0, vp_e1, vp_e2, (str p_e.fReason), vp_e4, (str p_e.fBody), (int p_e.fRequested), (int p_e.fReceived)]]) ?_ ?_
          · rcases boolE ((b26 && (decide ((p_e.fReason.length : Int) ≤ 100))) && (decide ((p_e.fBody.length : Int) ≤ 2000))) with hb34 | hb34
            · replace hg35 := condT hg35 hb34
              refine WL.gyes rfl rfl hb34 ?_
              refine WL.valw (R.fieldB rfl fld41_4) ?_
              refine WL.gyes rfl rfl hb34 ?_
              refine WL.valw (R.loadB (i := 0) (v := vp_e4) S rfl rfl lay23 rfl) ?_
              refine WL.gyes rfl rfl hb34 ?_
              obtain ⟨r36, hr36, hg35⟩ := bindE hg35
              refine W.call S rfl (keep_Fields_ok S.holds p_e.fFields Rp_e4 hr36) ?_
              rintro v37 w38 H39 hle40 S rfl
              have Rp_e0 := Sl.mono Rp_e0 hle40
              have Rp_e1 := Sl.mono Rp_e1 hle40
              have Rp_e2 := Sl.mono Rp_e2 hle40
              have Rp_e4 := Sl.mono Rp_e4 hle40
              refine WL.valw (R.pickT rfl hb34 rfl) ?_
              exact WL.nil ⟨(congrArg boo (Option.some.inj hg35)), (by repeat (first | refine agree_upd rfl ?_ | refine agree_upds' rfl ?_ | exact agree_refl)), ⟨H39, hle40, S⟩⟩
            · replace hg35 := condF hg35 hb34
              refine WL.gno rfl rfl hb34 ?_
              refine WL.gno rfl rfl hb34 ?_
              refine WL.gno rfl rfl hb34 ?_
              refine WL.valw (R.pickF rfl hb34 rfl) ?_
              exact WL.nil ⟨(congrArg boo (Option.some.inj hg35)), (by repeat (first | refine agree_upd rfl ?_ | refine agree_upds' rfl ?_ | exact agree_refl)), ⟨H27, (Hp.le.refl _), S⟩⟩
          · intro us w43 ⟨H42, hle44, S⟩
            have Rp_e0 := Sl.mono Rp_e0 hle44
            have Rp_e1 := Sl.mono Rp_e1 hle44
            have Rp_e2 := Sl.mono Rp_e2 hle44
            have Rp_e4 := Sl.mono Rp_e4 hle44
            refine WL.valw (R.as (v := (boo b41)) rfl) ?_
            refine WL.nil ?_
            obtain rfl := Option.some.inj h
            refine WP.ret (Out.one rfl S rfl ?_)
            exact rfl
set_option maxRecDepth 10000 in
set_option maxHeartbeats 4000000 in
theorem entry_lengths_ok {w0 : World} {H0 : Hp} (hw : Holds w0 H0) (p_l : (List Str)) {vp_l : Value} (Rp_l : Sl (α := Str) H0 vp_l p_l) {r : Int} (h : entry_lengths p_l = some r) :
    Con Tryd.prog 52 [vp_l] w0 H0 (fun H' v => v = (int r)) := by
  refine Con.mk (N := 19) Tryd.func52 rfl rfl (by kernel_rfl) rfl ?_
  have S := St.start hw
  refine WP.seq ?_
  refine WP.region ?_
  refine WL.valw (R.as (v := (int 0)) rfl) ?_
  refine WL.nil ?_
  refine WP.seq ?_
  refine WP.region ?_
  refine WL.valw (R.as (v := (int 0)) rfl) ?_
  refine WL.nil ?_
  refine WP.seq ?_
  refine WP.seq ?_
  refine WP.region ?_
  refine WL.valw (R.mv (v := vp_l) rfl) ?_
  refine WL.valw (R.lenL (α := Str) (xs := p_l) (H := H0) Rp_l rfl Tryd.underlying22) ?_
  refine WL.valw (R.mv (v := (int 0)) rfl) ?_
  refine WL.nil ?_
  obtain ⟨n_9, hr15, h⟩ := bindE h
  refine WP.cut (fun f w => ∃ (H8 : Hp), f 3 = (int n_9) ∧ St w0 H0 w H8 []) ?_ ?_
  · refine WP.block ?_
    refine WP.loopM (entry_lengths_L0 p_l) (fun s f w => match s with | (n_2, y_6) => ∃ (H1 : Hp), f 3 = (int n_2) ∧ f 6 = vp_l ∧ f 7 = (int (p_l.length : Int)) ∧ f 8 = (int y_6) ∧ Sl (α := Str) H1 vp_l p_l ∧ St w0 H0 w H1 []) (0, 0) n_9 hr15 ?_ ?_
    · exact ⟨H0, rfl, rfl, rfl, rfl, Rp_l, S⟩
    · intro s f w hI y11 hy12 hy13
      obtain ⟨n_2, y_6⟩ := s
      obtain ⟨H1, h3, h4, h5, h7, Rp_l, S⟩ := hI
      refine WP.seq ?_
      refine WP.region ?_
      refine WL.valw (R.lss h7 h5) ?_
      refine WL.nil ?_
      refine WP.seq ?_
      rcases condE hy12 with ⟨hc16, hy12⟩ | ⟨hc16, hy12⟩
      · refine WP.condT rfl hc16 ?_
        refine WP.skip ?_
        refine WP.seq ?_
        refine WP.block ?_
        refine WP.seq ?_
        refine WP.region ?_
        obtain ⟨x17, hx17, hy12⟩ := bindE hy12
        refine W.idx (α := Str) Rp_l h4 h7 el22 hx17 ?_
        rintro a18 _ hA19 rfl
        refine WL.valw (R.loadH (v := (str x17)) S rfl hA19 lay9 rfl) ?_
        refine WL.valw (R.as (v := (str x17)) rfl) ?_
        refine WL.nil ?_
        refine WP.region ?_
        refine WL.valw (R.mv (v := (int n_2)) h3) ?_
        refine WL.valw (R.mv (v := (str x17)) rfl) ?_
        refine WL.valw (R.lenS (a := x17) rfl Tryd.underlying9) ?_
        refine WL.valw (R.add rfl rfl) ?_
        refine WL.valw (R.add rfl rfl) ?_
        refine WL.valw (R.as (v := (int (wr (n_2 + (wr (4 + (x17.length : Int))))))) rfl) ?_
        refine WL.nil ?_
        refine WP.region ?_
        refine WL.valw (R.add h7 rfl) ?_
        refine WL.valw (R.mv (v := (int (wr (y_6 + 1)))) rfl) ?_
        refine WL.nil ?_
        obtain rfl := Option.some.inj hy12
        exact ⟨rfl, ⟨H1, rfl, h4, h5, rfl, Rp_l, S⟩⟩
      · refine WP.condF rfl hc16 ?_
        refine WP.exit ?_
        obtain rfl := Option.some.inj hy12
        obtain rfl := hy13
        exact ⟨H1, h3, S⟩
  · rintro f w ⟨H8, h10, S⟩
    refine WP.seq ?_
    refine WP.region ?_
    refine WL.valw (R.mv (v := (int n_9)) h10) ?_
    refine WL.valw (R.as (v := (int n_9)) rfl) ?_
    refine WL.nil ?_
    obtain rfl := Option.some.inj h
    refine WP.ret (Out.one rfl S rfl ?_)
    exact rfl
set_option maxRecDepth 10000 in
set_option maxHeartbeats 4000000 in
theorem entry_Size_ok {w0 : World} {H0 : Hp} (hw : Holds w0 H0) (p_e : GEntry) {vp_e0 : Value} {vp_e1 : Value} {vp_e2 : Value} {vp_e4 : Value} (Rp_e0 : Sl (α := (List Str)) H0 vp_e0 p_e.fKeys) (Rp_e1 : Sl (α := Str) H0 vp_e1 p_e.fVary) (Rp_e2 : Sl (α := Str) H0 vp_e2 p_e.fSnapshot) (Rp_e4 : Sl (α := GField) H0 vp_e4 p_e.fFields) {r : Int} (h : entry_Size p_e = some r) :
    Con Tryd.prog 26 [(agg [vp_e0, vp_e1, vp_e2, (str p_e.fReason), vp_e4, (str p_e.fBody), (int p_e.fRequested), (int p_e.fReceived)])] w0 H0 (fun H' v => v = (int r)) := by
  refine Con.mk (N := 55) Tryd.func26 rfl rfl (by kernel_rfl) rfl ?_
  have S := St.start hw
  refine WP.seq ?_
  refine WP.region ?_
  refine W.box [vp_e0, vp_e1, vp_e2, (str p_e.fReason), vp_e4, (str p_e.fBody), (int p_e.fRequested), (int p_e.fReceived)] S rfl rfl ?_
  intro b1 w2 S
  refine WL.valw (R.as (v := (int 0)) rfl) ?_
  refine WL.nil ?_
  refine WP.seq ?_
  refine WP.quiet S (by kernel_rfl) (by kernel_rfl) ?_
  refine WQ.val (fun _ _ => (R.fieldB rfl fld41_3)) ?_
  refine WQ.val (fun w hw => by obtain ⟨_, hq, S⟩ := hw; exact (R.loadB (i := 0) (v := (str p_e.fReason)) S rfl rfl lay9 rfl)) ?_
  refine WQ.val (fun _ _ => (R.lenS (a := p_e.fReason) rfl Tryd.underlying9)) ?_
  refine WQ.val (fun _ _ => (R.add rfl rfl)) ?_
  refine WQ.val (fun _ _ => (R.fieldB rfl fld41_5)) ?_
  refine WQ.val (fun w hw => by obtain ⟨_, hq, S⟩ := hw; exact (R.loadB (i := 0) (v := (str p_e.fBody)) S rfl rfl lay9 rfl)) ?_
  refine WQ.val (fun _ _ => (R.lenS (a := p_e.fBody) rfl Tryd.underlying9)) ?_
  refine WQ.val (fun _ _ => (R.add rfl rfl)) ?_
  refine WQ.val (fun _ _ => (R.fieldB rfl fld41_1)) ?_
  refine WQ.val (fun w hw => by obtain ⟨_, hq, S⟩ := hw; exact (R.loadB (i := 0) (v := vp_e1) S rfl rfl lay22 rfl)) ?_
  obtain ⟨r6, hr6, h⟩ := bindE h
  refine WQ.call (v := (int r6)) rfl (fun w H' hq S => entry_lengths_ok S.holds p_e.fVary (Sl.mono Rp_e1 hq) hr6) ?_
  refine WQ.val (fun _ _ => (R.add rfl rfl)) ?_
  refine WQ.val (fun _ _ => (R.fieldB rfl fld41_2)) ?_
  refine WQ.val (fun w hw => by obtain ⟨_, hq, S⟩ := hw; exact (R.loadB (i := 0) (v := vp_e2) S rfl rfl lay22 rfl)) ?_
  obtain ⟨r11, hr11, h⟩ := bindE h
  refine WQ.call (v := (int r11)) rfl (fun w H' hq S => entry_lengths_ok S.holds p_e.fSnapshot (Sl.mono Rp_e2 hq) hr11) ?_
  refine WQ.val (fun _ _ => (R.add rfl rfl)) ?_
  refine WQ.val (fun _ _ => (R.as (v := (int (wr ((wr ((wr ((wr (100 + (p_e.fReason.length : Int))) + (p_e.fBody.length : Int))) + r6)) + r11)))) rfl)) ?_
  refine WQ.nil ?_
  intro w3 H4 hle5 S
  have Rp_e0 := Sl.mono Rp_e0 hle5
  have Rp_e1 := Sl.mono Rp_e1 hle5
  have Rp_e2 := Sl.mono Rp_e2 hle5
  have Rp_e4 := Sl.mono Rp_e4 hle5
  refine WP.seq ?_
  refine WP.seq ?_
  refine WP.region ?_
  refine WL.valw (R.fieldB rfl fld41_4) ?_
  refine WL.valw (R.loadB (i := 0) (v := vp_e4) S rfl rfl lay23 rfl) ?_
  refine WL.valw (R.lenL (α := GField) (xs := p_e.fFields) (H := H4) Rp_e4 rfl Tryd.underlying23) ?_
  refine WL.valw (R.mv (v := (int 0)) rfl) ?_
  refine WL.nil ?_
  obtain ⟨n_26, hr32, h⟩ := bindE h
  refine WP.cut (fun f w => ∃ (H24 : Hp), f 1 = (ptr b1 0) ∧ f 3 = (int n_26) ∧ Sl (α := (List Str)) H24 vp_e0 p_e.fKeys ∧ Sl (α := Str) H24 vp_e1 p_e.fVary ∧ Sl (α := Str) H24 vp_e2 p_e.fSnapshot ∧ Sl (α := GField) H24 vp_e4 p_e.fFields ∧ St w0 H0 w H24 [.box b1 41 [vp_e0, vp_e1, vp_e2, (str p_e.fReason), vp_e4, (str p_e.fBody), (int p_e.fRequested), (int p_e.fReceived)]]) ?_ ?_
  · refine WP.block ?_
    refine WP.loopM (entry_Size_L0 p_e) (fun s f w => match s with | (n_18, y_22) => ∃ (H16 : Hp), f 1 = (ptr b1 0) ∧ f 3 = (int n_18) ∧ f 25 = vp_e4 ∧ f 26 = (int (p_e.fFields.length : Int)) ∧ f 27 = (int y_22) ∧ Sl (α := GField) H16 vp_e4 p_e.fFields ∧ Sl (α := (List Str)) H16 vp_e0 p_e.fKeys ∧ Sl (α := Str) H16 vp_e1 p_e.fVary ∧ Sl (α := Str) H16 vp_e2 p_e.fSnapshot ∧ St w0 H0 w H16 [.box b1 41 [vp_e0, vp_e1, vp_e2, (str p_e.fReason), vp_e4, (str p_e.fBody), (int p_e.fRequested), (int p_e.fReceived)]]) (wr ((wr ((wr ((wr (100 + (p_e.fReason.length : Int))) + (p_e.fBody.length : Int))) + r6)) + r11), 0) n_26 hr32 ?_ ?_
    · exact ⟨H4, rfl, rfl, rfl, rfl, rfl, Rp_e4, Rp_e0, Rp_e1, Rp_e2, S⟩
    · intro s f w hI y28 hy29 hy30
      obtain ⟨n_18, y_22⟩ := s
      obtain ⟨H16, h17, h19, h20, h21, h23, Rp_e4, Rp_e0, Rp_e1, Rp_e2, S⟩ := hI
      refine WP.seq ?_
      refine WP.region ?_
      refine WL.valw (R.lss h23 h21) ?_
      refine WL.nil ?_
      refine WP.seq ?_
      rcases condE hy29 with ⟨hc33, hy29⟩ | ⟨hc33, hy29⟩
      · refine WP.condT rfl hc33 ?_
        refine WP.skip ?_
        refine WP.seq ?_
        refine WP.block ?_
        refine WP.seq ?_
        refine WP.region ?_
        obtain ⟨x34, hx34, hy29⟩ := bindE hy29
        refine W.idx (α := GField) Rp_e4 h20 h23 el23 hx34 ?_
        rintro a35 _ hA36 rfl
        refine WL.valw (R.loadHN (vs := [(str x34.fName), (str x34.fValue)]) S rfl hA36 lay49 rfl rfl) ?_
        refine W.alloc [(str []), (str [])] S zer49 ?_
        intro b37 w38 S
        refine W.store (i := 0) [(str x34.fName), (str x34.fValue)] S rfl rfl rfl lay49 rfl rfl (Nat.le_of_ble_eq_true rfl) rfl ?_
        intro w39 S
        refine WL.nil ?_
        refine WP.region ?_
        refine WL.valw (R.mv (v := (int n_18)) h19) ?_
        refine WL.valw (R.fieldB rfl fld49_0) ?_
        refine WL.valw (R.loadB (i := 0) (v := (str x34.fName)) S rfl rfl lay9 rfl) ?_
        refine WL.valw (R.lenS (a := x34.fName) rfl Tryd.underlying9) ?_
        refine WL.valw (R.add rfl rfl) ?_
        refine WL.valw (R.fieldB rfl fld49_1) ?_
        refine WL.valw (R.loadB (i := 0) (v := (str x34.fValue)) S rfl rfl lay9 rfl) ?_
        refine WL.valw (R.lenS (a := x34.fValue) rfl Tryd.underlying9) ?_
        refine WL.valw (R.add rfl rfl) ?_
        refine WL.valw (R.add rfl rfl) ?_
        refine WL.valw (R.as (v := (int (wr (n_18 + (wr ((wr (4 + (x34.fName.length : Int))) + (x34.fValue.length : Int))))))) rfl) ?_
        refine WL.nil ?_
        refine WP.region ?_
        refine WL.valw (R.add h23 rfl) ?_
        refine WL.valw (R.mv (v := (int (wr (y_22 + 1)))) rfl) ?_
        refine WL.nil ?_
        obtain rfl := Option.some.inj hy29
        exact ⟨rfl, ⟨H16, h17, rfl, h20, h21, rfl, Rp_e4, Rp_e0, Rp_e1, Rp_e2, (S.drop _ (.cons _ (.cons_cons _ .slnil)))⟩⟩
      · refine WP.condF rfl hc33 ?_
        refine WP.exit ?_
        obtain rfl := Option.some.inj hy29
        obtain rfl := hy30
        exact ⟨H16, h17, h19, Rp_e0, Rp_e1, Rp_e2, Rp_e4, S⟩
  · rintro f w ⟨H24, h25, h27, Rp_e0, Rp_e1, Rp_e2, Rp_e4, S⟩
    refine WP.seq ?_
    refine WP.seq ?_
    refine WP.region ?_
    refine WL.valw (R.fieldB h25 fld41_0) ?_
    refine WL.valw (R.loadB (i := 0) (v := vp_e0) S rfl rfl lay39 rfl) ?_
    refine WL.valw (R.lenL (α := (List Str)) (xs := p_e.fKeys) (H := H24) Rp_e0 rfl Tryd.underlying39) ?_
    refine WL.valw (R.mv (v := (int 0)) rfl) ?_
    refine WL.nil ?_
    obtain ⟨n_48, hr54, h⟩ := bindE h
    refine WP.cut (fun f w => ∃ (H47 : Hp), f 3 = (int n_48) ∧ St w0 H0 w H47 []) ?_ ?_
    · refine WP.block ?_
      refine WP.loopM (entry_Size_L1 p_e) (fun s f w => match s with | (n_41, y_45) => ∃ (H40 : Hp), f 3 = (int n_41) ∧ f 43 = vp_e0 ∧ f 44 = (int (p_e.fKeys.length : Int)) ∧ f 45 = (int y_45) ∧ Sl (α := (List Str)) H40 vp_e0 p_e.fKeys ∧ St w0 H0 w H40 []) (n_26, 0) n_48 hr54 ?_ ?_
      · exact ⟨H24, h27, rfl, rfl, rfl, Rp_e0, (S.drop _ (.cons _ .slnil))⟩
      · intro s f w hI y50 hy51 hy52
        obtain ⟨n_41, y_45⟩ := s
        obtain ⟨H40, h42, h43, h44, h46, Rp_e0, S⟩ := hI
        refine WP.seq ?_
        refine WP.region ?_
        refine WL.valw (R.lss h46 h44) ?_
        refine WL.nil ?_
        refine WP.seq ?_
        rcases condE hy51 with ⟨hc55, hy51⟩ | ⟨hc55, hy51⟩
        · refine WP.condT rfl hc55 ?_
          refine WP.skip ?_
          refine WP.seq ?_
          refine WP.block ?_
          refine WP.seq ?_
          refine WP.region ?_
          obtain ⟨x56, hx56, hy51⟩ := bindE hy51
          refine W.idx (α := (List Str)) Rp_e0 h43 h46 el39 hx56 ?_
          rintro a57 _ hA58 ⟨v59, rfl, R60⟩
          refine WL.valw (R.loadH (v := v59) S rfl hA58 lay22 rfl) ?_
          refine WL.valw (R.as (v := v59) rfl) ?_
          refine WL.nil ?_
          refine WP.region ?_
          refine WL.valw (R.mv (v := (int n_41)) h42) ?_
          refine WL.valw (R.mv (v := v59) rfl) ?_
          obtain ⟨r61, hr61, hy51⟩ := bindE hy51
          refine W.call S rfl (entry_lengths_ok S.holds x56 R60 hr61) ?_
          rintro v62 w63 H64 hle65 S rfl
          have Rp_e0 := Sl.mono Rp_e0 hle65
          have hA58 := At.mono hA58 hle65 (by simp)
          have R60 := Sl.mono R60 hle65
          refine WL.valw (R.add rfl rfl) ?_
          refine WL.valw (R.as (v := (int (wr (n_41 + r61)))) rfl) ?_
          refine WL.nil ?_
          refine WP.region ?_
          refine WL.valw (R.add h46 rfl) ?_
          refine WL.valw (R.mv (v := (int (wr (y_45 + 1)))) rfl) ?_
          refine WL.nil ?_
          obtain rfl := Option.some.inj hy51
          exact ⟨rfl, ⟨H64, rfl, h43, h44, rfl, Rp_e0, S⟩⟩
        · refine WP.condF rfl hc55 ?_
          refine WP.exit ?_
          obtain rfl := Option.some.inj hy51
          obtain rfl := hy52
          exact ⟨H40, h42, S⟩
    · rintro f w ⟨H47, h49, S⟩
      refine WP.seq ?_
      refine WP.region ?_
      refine WL.valw (R.mv (v := (int n_48)) h49) ?_
      refine WL.valw (R.as (v := (int n_48)) rfl) ?_
      refine WL.nil ?_
      obtain rfl := Option.some.inj h
      refine WP.ret (Out.one rfl S rfl ?_)
      exact rfl
set_option maxRecDepth 10000 in
set_option maxHeartbeats 4000000 in
theorem ref26_Size_ok {w0 : World} {H0 : Hp} (hw : Holds w0 H0) (p_ppend : GEntry) {vp_ppend0 : Value} {vp_ppend1 : Value} {vp_ppend2 : Value} {vp_ppend4 : Value} (Rp_ppend0 : Sl (α := (List Str)) H0 vp_ppend0 p_ppend.fKeys) (Rp_ppend1 : Sl (α := Str) H0 vp_ppend1 p_ppend.fVary) (Rp_ppend2 : Sl (α := Str) H0 vp_ppend2 p_ppend.fSnapshot) (Rp_ppend4 : Sl (α := GField) H0 vp_ppend4 p_ppend.fFields) {r : Int} (h : ref26_Size p_ppend = some r) :
    Con Tryd.prog 27 [(agg [vp_ppend0, vp_ppend1, vp_ppend2, (str p_ppend.fReason), vp_ppend4, (str p_ppend.fBody), (int p_ppend.fRequested), (int p_ppend.fReceived)])] w0 H0 (fun H' v => v = (int r)) := by
  refine Con.mk (N := 104) Tryd.func27 rfl rfl (by kernel_rfl) rfl ?_
  have S := St.start hw
  refine WP.seq ?_
  refine WP.region ?_
  refine W.box [vp_ppend0, vp_ppend1, vp_ppend2, (str p_ppend.fReason), vp_ppend4, (str p_ppend.fBody), (int p_ppend.fRequested), (int p_ppend.fReceived)] S rfl rfl ?_
  intro b1 w2 S
  refine WL.valw (R.as (v := (int 0)) rfl) ?_
  refine WL.nil ?_
  refine WP.seq ?_
  refine WP.region ?_
  refine WL.valw (R.fieldB rfl fld41_3) ?_
  refine WL.valw (R.loadB (i := 0) (v := (str p_ppend.fReason)) S rfl rfl lay9 rfl) ?_
  refine WL.valw (R.lenS (a := p_ppend.fReason) rfl Tryd.underlying9) ?_
  refine WL.valw (R.add rfl rfl) ?_
  refine WL.valw (R.fieldB rfl fld41_5) ?_
  refine WL.valw (R.loadB (i := 0) (v := (str p_ppend.fBody)) S rfl rfl lay9 rfl) ?_
  refine WL.valw (R.lenS (a := p_ppend.fBody) rfl Tryd.underlying9) ?_
  refine WL.valw (R.add rfl rfl) ?_
  refine WL.valw (R.as (v := (int (wr ((wr (100 + (p_ppend.fReason.length : Int))) + (p_ppend.fBody.length : Int))))) rfl) ?_
  refine WL.nil ?_
  refine WP.seq ?_
  refine WP.seq ?_
  refine WP.region ?_
  refine WL.valw (R.as (v := (int 0)) rfl) ?_
  refine WL.nil ?_
  obtain ⟨y_11, hr17, h⟩ := bindE h
  refine WP.cut (fun f w => ∃ (H9 : Hp), f 1 = (ptr b1 0) ∧ f 3 = (int y_11) ∧ Sl (α := (List Str)) H9 vp_ppend0 p_ppend.fKeys ∧ Sl (α := Str) H9 vp_ppend1 p_ppend.fVary ∧ Sl (α := Str) H9 vp_ppend2 p_ppend.fSnapshot ∧ Sl (α := GField) H9 vp_ppend4 p_ppend.fFields ∧ St w0 H0 w H9 [.box b1 41 [vp_ppend0, vp_ppend1, vp_ppend2, (str p_ppend.fReason), vp_ppend4, (str p_ppend.fBody), (int p_ppend.fRequested), (int p_ppend.fReceived)]]) ?_ ?_
  · refine WP.block ?_
    refine WP.loopM (ref26_Size_L0 p_ppend) (fun s f w => match s with | (y_5, y_7) => ∃ (H3 : Hp), f 1 = (ptr b1 0) ∧ f 3 = (int y_5) ∧ f 4 = (int y_7) ∧ Sl (α := (List Str)) H3 vp_ppend0 p_ppend.fKeys ∧ Sl (α := Str) H3 vp_ppend1 p_ppend.fVary ∧ Sl (α := Str) H3 vp_ppend2 p_ppend.fSnapshot ∧ Sl (α := GField) H3 vp_ppend4 p_ppend.fFields ∧ St w0 H0 w H3 [.box b1 41 [vp_ppend0, vp_ppend1, vp_ppend2, (str p_ppend.fReason), vp_ppend4, (str p_ppend.fBody), (int p_ppend.fRequested), (int p_ppend.fReceived)]]) (wr ((wr (100 + (p_ppend.fReason.length : Int))) + (p_ppend.fBody.length : Int)), 0) y_11 hr17 ?_ ?_
    · exact ⟨H0, rfl, rfl, rfl, Rp_ppend0, Rp_ppend1, Rp_ppend2, Rp_ppend4, S⟩
    · intro s f w hI y13 hy14 hy15
      obtain ⟨y_5, y_7⟩ := s
      obtain ⟨H3, h4, h6, h8, Rp_ppend0, Rp_ppend1, Rp_ppend2, Rp_ppend4, S⟩ := hI
      refine WP.seq ?_
      refine WP.seq ?_
      refine WP.region ?_
      refine WL.valw (R.mv (v := (int y_7)) h8) ?_
      refine WL.valw (R.fieldB h4 fld41_4) ?_
      refine WL.valw (R.loadB (i := 0) (v := vp_ppend4) S rfl rfl lay23 rfl) ?_
      refine WL.valw (R.lenL (α := GField) (xs := p_ppend.fFields) (H := H3) Rp_ppend4 rfl Tryd.underlying23) ?_
      refine WL.valw (R.lss rfl rfl) ?_
      refine WL.nil ?_
      rcases condE hy14 with ⟨hc18, hy14⟩ | ⟨hc18, hy14⟩
      · refine WP.condT rfl hc18 ?_
        refine WP.skip ?_
        refine WP.seq ?_
        refine WP.block ?_
        refine WP.quiet S (by kernel_rfl) (by kernel_rfl) ?_
        refine WQ.val (fun _ _ => (R.mv (v := (int y_5)) h6)) ?_
        refine WQ.val (fun _ _ => (R.fieldB h4 fld41_4)) ?_
        refine WQ.val (fun w hw => by obtain ⟨_, hq, S⟩ := hw; exact (R.loadB (i := 0) (v := vp_ppend4) S rfl rfl lay23 rfl)) ?_
        refine WQ.val (fun _ _ => (R.mv (v := (int y_7)) h8)) ?_
        obtain ⟨x22, hx22, hy14⟩ := bindE hy14
        refine WQ.idx (α := GField) Rp_ppend4 rfl rfl el23 hx22 ?_
        rintro a23 _ hA24 rfl
        refine WQ.val (fun _ _ => (R.field rfl fld49_0)) ?_
        have hA25 := At.add hA24 0 (by simp)
        refine WQ.val (fun w hw => by obtain ⟨_, hq, S⟩ := hw; exact (R.loadH (v := (str x22.fName)) S rfl (At.mono hA25 hq (by simp)) lay9 rfl)) ?_
        refine WQ.val (fun _ _ => (R.lenS (a := x22.fName) rfl Tryd.underlying9)) ?_
        refine WQ.val (fun _ _ => (R.add rfl rfl)) ?_
        refine WQ.val (fun _ _ => (R.fieldB h4 fld41_4)) ?_
        refine WQ.val (fun w hw => by obtain ⟨_, hq, S⟩ := hw; exact (R.loadB (i := 0) (v := vp_ppend4) S rfl rfl lay23 rfl)) ?_
        refine WQ.val (fun _ _ => (R.mv (v := (int y_7)) h8)) ?_
        obtain ⟨x26, hx26, hy14⟩ := bindE hy14
        refine WQ.idx (α := GField) Rp_ppend4 rfl rfl el23 hx26 ?_
        rintro a27 _ hA28 rfl
        refine WQ.val (fun _ _ => (R.field rfl fld49_1)) ?_
        have hA29 := At.add hA28 1 (by simp)
        refine WQ.val (fun w hw => by obtain ⟨_, hq, S⟩ := hw; exact (R.loadH (v := (str x26.fValue)) S rfl (At.mono hA29 hq (by simp)) lay9 rfl)) ?_
        refine WQ.val (fun _ _ => (R.lenS (a := x26.fValue) rfl Tryd.underlying9)) ?_
        refine WQ.val (fun _ _ => (R.add rfl rfl)) ?_
        refine WQ.val (fun _ _ => (R.add rfl rfl)) ?_
        refine WQ.val (fun _ _ => (R.as (v := (int (wr (y_5 + (wr ((wr (4 + (x22.fName.length : Int))) + (x26.fValue.length : Int))))))) rfl)) ?_
        refine WQ.nil ?_
        intro w19 H20 hle21 S
        have Rp_ppend4 := Sl.mono Rp_ppend4 hle21
        have hA24 := At.mono hA24 hle21 (by simp)
        have hA25 := At.mono hA25 hle21 (by simp)
        have hA28 := At.mono hA28 hle21 (by simp)
        have hA29 := At.mono hA29 hle21 (by simp)
        have Rp_ppend0 := Sl.mono Rp_ppend0 hle21
        have Rp_ppend1 := Sl.mono Rp_ppend1 hle21
        have Rp_ppend2 := Sl.mono Rp_ppend2 hle21
        refine WP.region ?_
        refine WL.valw (R.mv (v := (int y_7)) h8) ?_
        refine WL.valw (R.add rfl rfl) ?_
        refine WL.valw (R.as (v := (int (wr (y_7 + 1)))) rfl) ?_
        refine WL.nil ?_
        obtain rfl := Option.some.inj hy14
        exact ⟨rfl, ⟨H20, h4, rfl, rfl, Rp_ppend0, Rp_ppend1, Rp_ppend2, Rp_ppend4, S⟩⟩
      · refine WP.condF rfl hc18 ?_
        refine WP.exit ?_
        obtain rfl := Option.some.inj hy14
        obtain rfl := hy15
        exact ⟨H3, h4, h6, Rp_ppend0, Rp_ppend1, Rp_ppend2, Rp_ppend4, S⟩
  · rintro f w ⟨H9, h10, h12, Rp_ppend0, Rp_ppend1, Rp_ppend2, Rp_ppend4, S⟩
    refine WP.seq ?_
    refine WP.seq ?_
    refine WP.region ?_
    refine WL.valw (R.as (v := (int 0)) rfl) ?_
    refine WL.nil ?_
    obtain ⟨y_38, hr44, h⟩ := bindE h
    refine WP.cut (fun f w => ∃ (H36 : Hp), f 1 = (ptr b1 0) ∧ f 3 = (int y_38) ∧ Sl (α := (List Str)) H36 vp_ppend0 p_ppend.fKeys ∧ Sl (α := Str) H36 vp_ppend1 p_ppend.fVary ∧ Sl (α := Str) H36 vp_ppend2 p_ppend.fSnapshot ∧ Sl (α := GField) H36 vp_ppend4 p_ppend.fFields ∧ St w0 H0 w H36 [.box b1 41 [vp_ppend0, vp_ppend1, vp_ppend2, (str p_ppend.fReason), vp_ppend4, (str p_ppend.fBody), (int p_ppend.fRequested), (int p_ppend.fReceived)]]) ?_ ?_
    · refine WP.block ?_
      refine WP.loopM (ref26_Size_L2 p_ppend) (fun s f w => match s with | (y_32, y_34) => ∃ (H30 : Hp), f 1 = (ptr b1 0) ∧ f 3 = (int y_32) ∧ f 5 = (int y_34) ∧ Sl (α := (List Str)) H30 vp_ppend0 p_ppend.fKeys ∧ Sl (α := Str) H30 vp_ppend1 p_ppend.fVary ∧ Sl (α := Str) H30 vp_ppend2 p_ppend.fSnapshot ∧ Sl (α := GField) H30 vp_ppend4 p_ppend.fFields ∧ St w0 H0 w H30 [.box b1 41 [vp_ppend0, vp_ppend1, vp_ppend2, (str p_ppend.fReason), vp_ppend4, (str p_ppend.fBody), (int p_ppend.fRequested), (int p_ppend.fReceived)]]) (y_11, 0) y_38 hr44 ?_ ?_
      · exact ⟨H9, h10, h12, rfl, Rp_ppend0, Rp_ppend1, Rp_ppend2, Rp_ppend4, S⟩
      · intro s f w hI y40 hy41 hy42
        obtain ⟨y_32, y_34⟩ := s
        obtain ⟨H30, h31, h33, h35, Rp_ppend0, Rp_ppend1, Rp_ppend2, Rp_ppend4, S⟩ := hI
        refine WP.seq ?_
        refine WP.seq ?_
        refine WP.region ?_
        refine WL.valw (R.mv (v := (int y_34)) h35) ?_
        refine WL.valw (R.fieldB h31 fld41_0) ?_
        refine WL.valw (R.loadB (i := 0) (v := vp_ppend0) S rfl rfl lay39 rfl) ?_
        refine WL.valw (R.lenL (α := (List Str)) (xs := p_ppend.fKeys) (H := H30) Rp_ppend0 rfl Tryd.underlying39) ?_
        refine WL.valw (R.lss rfl rfl) ?_
        refine WL.nil ?_
        rcases condE hy41 with ⟨hc45, hy41⟩ | ⟨hc45, hy41⟩
        · refine WP.condT rfl hc45 ?_
          refine WP.skip ?_
          refine WP.seq ?_
          refine WP.block ?_
          refine WP.seq ?_
          refine WP.region ?_
          refine WL.valw (R.as (v := (int 0)) rfl) ?_
          refine WL.nil ?_
          obtain ⟨y_55, hr62, hy41⟩ := bindE hy41
          refine WP.cut (fun f w => ∃ (H53 : Hp), f 1 = (ptr b1 0) ∧ f 3 = (int y_55) ∧ f 5 = (int y_34) ∧ Sl (α := (List Str)) H53 vp_ppend0 p_ppend.fKeys ∧ Sl (α := Str) H53 vp_ppend1 p_ppend.fVary ∧ Sl (α := Str) H53 vp_ppend2 p_ppend.fSnapshot ∧ Sl (α := GField) H53 vp_ppend4 p_ppend.fFields ∧ St w0 H0 w H53 [.box b1 41 [vp_ppend0, vp_ppend1, vp_ppend2, (str p_ppend.fReason), vp_ppend4, (str p_ppend.fBody), (int p_ppend.fRequested), (int p_ppend.fReceived)]]) ?_ ?_
          · refine WP.block ?_
            refine WP.loopM (ref26_Size_L1 p_ppend y_34) (fun s f w => match s with | (y_48, y_51) => ∃ (H46 : Hp), f 1 = (ptr b1 0) ∧ f 3 = (int y_48) ∧ f 5 = (int y_34) ∧ f 6 = (int y_51) ∧ Sl (α := (List Str)) H46 vp_ppend0 p_ppend.fKeys ∧ Sl (α := Str) H46 vp_ppend1 p_ppend.fVary ∧ Sl (α := Str) H46 vp_ppend2 p_ppend.fSnapshot ∧ Sl (α := GField) H46 vp_ppend4 p_ppend.fFields ∧ St w0 H0 w H46 [.box b1 41 [vp_ppend0, vp_ppend1, vp_ppend2, (str p_ppend.fReason), vp_ppend4, (str p_ppend.fBody), (int p_ppend.fRequested), (int p_ppend.fReceived)]]) (y_32, 0) y_55 hr62 ?_ ?_
            · exact ⟨H30, h31, h33, h35, rfl, Rp_ppend0, Rp_ppend1, Rp_ppend2, Rp_ppend4, S⟩
            · intro s f w hI y58 hy59 hy60
              obtain ⟨y_48, y_51⟩ := s
              obtain ⟨H46, h47, h49, h50, h52, Rp_ppend0, Rp_ppend1, Rp_ppend2, Rp_ppend4, S⟩ := hI
              refine WP.seq ?_
              refine WP.seq ?_
              refine WP.region ?_
              refine WL.valw (R.mv (v := (int y_51)) h52) ?_
              refine WL.valw (R.fieldB h47 fld41_0) ?_
              refine WL.valw (R.loadB (i := 0) (v := vp_ppend0) S rfl rfl lay39 rfl) ?_
              refine WL.valw (R.mv (v := (int y_34)) h50) ?_
              obtain ⟨x63, hx63, hy59⟩ := bindE hy59
              refine W.idx (α := (List Str)) Rp_ppend0 rfl rfl el39 hx63 ?_
              rintro a64 _ hA65 ⟨v66, rfl, R67⟩
              refine WL.valw (R.loadH (v := v66) S rfl hA65 lay22 rfl) ?_
              refine WL.valw (R.lenL (α := Str) (xs := x63) (H := H46) R67 rfl Tryd.underlying22) ?_
              refine WL.valw (R.lss rfl rfl) ?_
              refine WL.nil ?_
              rcases condE hy59 with ⟨hc68, hy59⟩ | ⟨hc68, hy59⟩
              · refine WP.condT rfl hc68 ?_
                refine WP.skip ?_
                refine WP.seq ?_
                refine WP.block ?_
                refine WP.region ?_
                refine WL.valw (R.mv (v := (int y_48)) h49) ?_
                refine WL.valw (R.fieldB h47 fld41_0) ?_
                refine WL.valw (R.loadB (i := 0) (v := vp_ppend0) S rfl rfl lay39 rfl) ?_
                refine WL.valw (R.mv (v := (int y_34)) h50) ?_
                obtain ⟨x69, hx69, hy59⟩ := bindE hy59
                refine W.idx (α := (List Str)) Rp_ppend0 rfl rfl el39 hx69 ?_
                rintro a70 _ hA71 ⟨v72, rfl, R73⟩
                refine WL.valw (R.loadH (v := v72) S rfl hA71 lay22 rfl) ?_
                refine WL.valw (R.mv (v := (int y_51)) h52) ?_
                obtain ⟨x74, hx74, hy59⟩ := bindE hy59
                refine W.idx (α := Str) R73 rfl rfl el22 hx74 ?_
                rintro a75 _ hA76 rfl
                refine WL.valw (R.loadH (v := (str x74)) S rfl hA76 lay9 rfl) ?_
                refine WL.valw (R.lenS (a := x74) rfl Tryd.underlying9) ?_
                refine WL.valw (R.add rfl rfl) ?_
                refine WL.valw (R.add rfl rfl) ?_
                refine WL.valw (R.as (v := (int (wr (y_48 + (wr (4 + (x74.length : Int))))))) rfl) ?_
                refine WL.nil ?_
                refine WP.region ?_
                refine WL.valw (R.mv (v := (int y_51)) h52) ?_
                refine WL.valw (R.add rfl rfl) ?_
                refine WL.valw (R.as (v := (int (wr (y_51 + 1)))) rfl) ?_
                refine WL.nil ?_
                obtain rfl := Option.some.inj hy59
                exact ⟨rfl, ⟨H46, h47, rfl, h50, rfl, Rp_ppend0, Rp_ppend1, Rp_ppend2, Rp_ppend4, S⟩⟩
              · refine WP.condF rfl hc68 ?_
                refine WP.exit ?_
                obtain rfl := Option.some.inj hy59
                obtain rfl := hy60
                exact ⟨H46, h47, h49, h50, Rp_ppend0, Rp_ppend1, Rp_ppend2, Rp_ppend4, S⟩
          · rintro f w ⟨H53, h54, h56, h57, Rp_ppend0, Rp_ppend1, Rp_ppend2, Rp_ppend4, S⟩
            refine WP.region ?_
            refine WL.valw (R.mv (v := (int y_34)) h57) ?_
            refine WL.valw (R.add rfl rfl) ?_
            refine WL.valw (R.as (v := (int (wr (y_34 + 1)))) rfl) ?_
            refine WL.nil ?_
            obtain rfl := Option.some.inj hy41
            exact ⟨rfl, ⟨H53, h54, h56, rfl, Rp_ppend0, Rp_ppend1, Rp_ppend2, Rp_ppend4, S⟩⟩
        · refine WP.condF rfl hc45 ?_
          refine WP.exit ?_
          obtain rfl := Option.some.inj hy41
          obtain rfl := hy42
          exact ⟨H30, h31, h33, Rp_ppend0, Rp_ppend1, Rp_ppend2, Rp_ppend4, S⟩
    · rintro f w ⟨H36, h37, h39, Rp_ppend0, Rp_ppend1, Rp_ppend2, Rp_ppend4, S⟩
      refine WP.seq ?_
      refine WP.seq ?_
      refine WP.region ?_
      refine WL.valw (R.as (v := (int 0)) rfl) ?_
      refine WL.nil ?_
      obtain ⟨y_85, hr91, h⟩ := bindE h
      refine WP.cut (fun f w => ∃ (H83 : Hp), f 1 = (ptr b1 0) ∧ f 3 = (int y_85) ∧ Sl (α := (List Str)) H83 vp_ppend0 p_ppend.fKeys ∧ Sl (α := Str) H83 vp_ppend1 p_ppend.fVary ∧ Sl (α := Str) H83 vp_ppend2 p_ppend.fSnapshot ∧ Sl (α := GField) H83 vp_ppend4 p_ppend.fFields ∧ St w0 H0 w H83 [.box b1 41 [vp_ppend0, vp_ppend1, vp_ppend2, (str p_ppend.fReason), vp_ppend4, (str p_ppend.fBody), (int p_ppend.fRequested), (int p_ppend.fReceived)]]) ?_ ?_
      · refine WP.block ?_
        refine WP.loopM (ref26_Size_L3 p_ppend) (fun s f w => match s with | (y_79, y_81) => ∃ (H77 : Hp), f 1 = (ptr b1 0) ∧ f 3 = (int y_79) ∧ f 7 = (int y_81) ∧ Sl (α := (List Str)) H77 vp_ppend0 p_ppend.fKeys ∧ Sl (α := Str) H77 vp_ppend1 p_ppend.fVary ∧ Sl (α := Str) H77 vp_ppend2 p_ppend.fSnapshot ∧ Sl (α := GField) H77 vp_ppend4 p_ppend.fFields ∧ St w0 H0 w H77 [.box b1 41 [vp_ppend0, vp_ppend1, vp_ppend2, (str p_ppend.fReason), vp_ppend4, (str p_ppend.fBody), (int p_ppend.fRequested), (int p_ppend.fReceived)]]) (y_38, 0) y_85 hr91 ?_ ?_
        · exact ⟨H36, h37, h39, rfl, Rp_ppend0, Rp_ppend1, Rp_ppend2, Rp_ppend4, S⟩
        · intro s f w hI y87 hy88 hy89
          obtain ⟨y_79, y_81⟩ := s
          obtain ⟨H77, h78, h80, h82, Rp_ppend0, Rp_ppend1, Rp_ppend2, Rp_ppend4, S⟩ := hI
          refine WP.seq ?_
          refine WP.seq ?_
          refine WP.region ?_
          refine WL.valw (R.mv (v := (int y_81)) h82) ?_
          refine WL.valw (R.fieldB h78 fld41_1) ?_
          refine WL.valw (R.loadB (i := 0) (v := vp_ppend1) S rfl rfl lay22 rfl) ?_
          refine WL.valw (R.lenL (α := Str) (xs := p_ppend.fVary) (H := H77) Rp_ppend1 rfl Tryd.underlying22) ?_
          refine WL.valw (R.lss rfl rfl) ?_
          refine WL.nil ?_
          rcases condE hy88 with ⟨hc92, hy88⟩ | ⟨hc92, hy88⟩
          · refine WP.condT rfl hc92 ?_
            refine WP.skip ?_
            refine WP.seq ?_
            refine WP.block ?_
            refine WP.region ?_
            refine WL.valw (R.mv (v := (int y_79)) h80) ?_
            refine WL.valw (R.fieldB h78 fld41_1) ?_
            refine WL.valw (R.loadB (i := 0) (v := vp_ppend1) S rfl rfl lay22 rfl) ?_
            refine WL.valw (R.mv (v := (int y_81)) h82) ?_
            obtain ⟨x93, hx93, hy88⟩ := bindE hy88
            refine W.idx (α := Str) Rp_ppend1 rfl rfl el22 hx93 ?_
            rintro a94 _ hA95 rfl
            refine WL.valw (R.loadH (v := (str x93)) S rfl hA95 lay9 rfl) ?_
            refine WL.valw (R.lenS (a := x93) rfl Tryd.underlying9) ?_
            refine WL.valw (R.add rfl rfl) ?_
            refine WL.valw (R.add rfl rfl) ?_
            refine WL.valw (R.as (v := (int (wr (y_79 + (wr (4 + (x93.length : Int))))))) rfl) ?_
            refine WL.nil ?_
            refine WP.region ?_
            refine WL.valw (R.mv (v := (int y_81)) h82) ?_
            refine WL.valw (R.add rfl rfl) ?_
            refine WL.valw (R.as (v := (int (wr (y_81 + 1)))) rfl) ?_
            refine WL.nil ?_
            obtain rfl := Option.some.inj hy88
            exact ⟨rfl, ⟨H77, h78, rfl, rfl, Rp_ppend0, Rp_ppend1, Rp_ppend2, Rp_ppend4, S⟩⟩
          · refine WP.condF rfl hc92 ?_
            refine WP.exit ?_
            obtain rfl := Option.some.inj hy88
            obtain rfl := hy89
            exact ⟨H77, h78, h80, Rp_ppend0, Rp_ppend1, Rp_ppend2, Rp_ppend4, S⟩
      · rintro f w ⟨H83, h84, h86, Rp_ppend0, Rp_ppend1, Rp_ppend2, Rp_ppend4, S⟩
        refine WP.seq ?_
        refine WP.seq ?_
        refine WP.region ?_
        refine WL.valw (R.as (v := (int 0)) rfl) ?_
        refine WL.nil ?_
        obtain ⟨y_103, hr109, h⟩ := bindE h
        refine WP.cut (fun f w => ∃ (H102 : Hp), f 3 = (int y_103) ∧ St w0 H0 w H102 []) ?_ ?_
        · refine WP.block ?_
          refine WP.loopM (ref26_Size_L4 p_ppend) (fun s f w => match s with | (y_98, y_100) => ∃ (H96 : Hp), f 1 = (ptr b1 0) ∧ f 3 = (int y_98) ∧ f 8 = (int y_100) ∧ Sl (α := (List Str)) H96 vp_ppend0 p_ppend.fKeys ∧ Sl (α := Str) H96 vp_ppend1 p_ppend.fVary ∧ Sl (α := Str) H96 vp_ppend2 p_ppend.fSnapshot ∧ Sl (α := GField) H96 vp_ppend4 p_ppend.fFields ∧ St w0 H0 w H96 [.box b1 41 [vp_ppend0, vp_ppend1, vp_ppend2, (str p_ppend.fReason), vp_ppend4, (str p_ppend.fBody), (int p_ppend.fRequested), (int p_ppend.fReceived)]]) (y_85, 0) y_103 hr109 ?_ ?_
          · exact ⟨H83, h84, h86, rfl, Rp_ppend0, Rp_ppend1, Rp_ppend2, Rp_ppend4, S⟩
          · intro s f w hI y105 hy106 hy107
            obtain ⟨y_98, y_100⟩ := s
            obtain ⟨H96, h97, h99, h101, Rp_ppend0, Rp_ppend1, Rp_ppend2, Rp_ppend4, S⟩ := hI
            refine WP.seq ?_
            refine WP.seq ?_
            refine WP.region ?_
            refine WL.valw (R.mv (v := (int y_100)) h101) ?_
            refine WL.valw (R.fieldB h97 fld41_2) ?_
            refine WL.valw (R.loadB (i := 0) (v := vp_ppend2) S rfl rfl lay22 rfl) ?_
            refine WL.valw (R.lenL (α := Str) (xs := p_ppend.fSnapshot) (H := H96) Rp_ppend2 rfl Tryd.underlying22) ?_
            refine WL.valw (R.lss rfl rfl) ?_
            refine WL.nil ?_
            rcases condE hy106 with ⟨hc110, hy106⟩ | ⟨hc110, hy106⟩
            · refine WP.condT rfl hc110 ?_
              refine WP.skip ?_
              refine WP.seq ?_
              refine WP.block ?_
              refine WP.region ?_
              refine WL.valw (R.mv (v := (int y_98)) h99) ?_
              refine WL.valw (R.fieldB h97 fld41_2) ?_
              refine WL.valw (R.loadB (i := 0) (v := vp_ppend2) S rfl rfl lay22 rfl) ?_
              refine WL.valw (R.mv (v := (int y_100)) h101) ?_
              obtain ⟨x111, hx111, hy106⟩ := bindE hy106
              refine W.idx (α := Str) Rp_ppend2 rfl rfl el22 hx111 ?_
              rintro a112 _ hA113 rfl
              refine WL.valw (R.loadH (v := (str x111)) S rfl hA113 lay9 rfl) ?_
              refine WL.valw (R.lenS (a := x111) rfl Tryd.underlying9) ?_
              refine WL.valw (R.add rfl rfl) ?_
              refine WL.valw (R.add rfl rfl) ?_
              refine WL.valw (R.as (v := (int (wr (y_98 + (wr (4 + (x111.length : Int))))))) rfl) ?_
              refine WL.nil ?_
              refine WP.region ?_
              refine WL.valw (R.mv (v := (int y_100)) h101) ?_
              refine WL.valw (R.add rfl rfl) ?_
              refine WL.valw (R.as (v := (int (wr (y_100 + 1)))) rfl) ?_
              refine WL.nil ?_
              obtain rfl := Option.some.inj hy106
              exact ⟨rfl, ⟨H96, h97, rfl, rfl, Rp_ppend0, Rp_ppend1, Rp_ppend2, Rp_ppend4, S⟩⟩
            · refine WP.condF rfl hc110 ?_
              refine WP.exit ?_
              obtain rfl := Option.some.inj hy106
              obtain rfl := hy107
              exact ⟨H96, h99, (S.drop _ (.cons _ .slnil))⟩
        · rintro f w ⟨H102, h104, S⟩
          refine WP.seq ?_
          refine WP.region ?_
          refine WL.valw (R.mv (v := (int y_103)) h104) ?_
          refine WL.valw (R.as (v := (int y_103)) rfl) ?_
          refine WL.nil ?_
          obtain rfl := Option.some.inj h
          refine WP.ret (Out.one rfl S rfl ?_)
          exact rfl
set_option maxRecDepth 10000 in
set_option maxHeartbeats 4000000 in
theorem fieldline_First_ok {w0 : World} {H0 : Hp} (hw : Holds w0 H0) (p_l : (List GField)) (p_name : Str) {vp_l : Value} (Rp_l : Sl (α := GField) H0 vp_l p_l) {r : (Str × Bool)} (h : fieldline_First p_l p_name = some r) :
    Con Tryd.prog 75 [vp_l, (str p_name)] w0 H0 (fun H' v => v = (.tuple ⟨[(str r.1), (boo r.2)]⟩)) := by
  refine Con.mk (N := 16) Tryd.func75 rfl rfl (by kernel_rfl) rfl ?_
  have S := St.start hw
  refine WP.seq ?_
  refine WP.region ?_
  refine WL.valw (R.as (v := (str [])) rfl) ?_
  refine WL.valw (R.as (v := (boo false)) rfl) ?_
  refine WL.nil ?_
  refine WP.seq ?_
  refine WP.region ?_
  refine WL.valw (R.mv (v := vp_l) rfl) ?_
  refine WL.valw (R.mv (v := (str p_name)) rfl) ?_
  obtain ⟨r1, hr1, h⟩ := bindE h
  refine W.call S rfl (fieldline_Get_ok S.holds p_l p_name Rp_l hr1) ?_
  rintro v2 w3 H4 hle5 S R6
  have Rp_l := Sl.mono Rp_l hle5
  refine WL.valw (R.as (v := v2) rfl) ?_
  refine WL.nil ?_
  refine WP.seq ?_
  refine WP.seq ?_
  refine WP.region ?_
  refine WL.valw (R.mv (v := v2) rfl) ?_
  refine WL.valw (R.lenL (α := Str) (xs := r1) (H := H4) R6 rfl Tryd.underlying22) ?_
  refine WL.valw (R.eql rfl rfl) ?_
  refine WL.nil ?_
  rcases condE h with ⟨hc7, h⟩ | ⟨hc7, h⟩
  · refine WP.condT rfl hc7 ?_
    refine WP.seq ?_
    refine WP.region ?_
    refine WL.valw (R.as (v := (str [])) rfl) ?_
    refine WL.valw (R.as (v := (boo false)) rfl) ?_
    refine WL.nil ?_
    obtain rfl := Option.some.inj h
    refine WP.ret (Out.two rfl S rfl rfl ?_)
    exact rfl
  · refine WP.condF rfl hc7 ?_
    refine WP.skip ?_
    refine WP.seq ?_
    refine WP.region ?_
    refine WL.valw (R.mv (v := v2) rfl) ?_
    obtain ⟨x8, hx8, h⟩ := bindE h
    refine W.idx (α := Str) R6 rfl rfl el22 hx8 ?_
    rintro a9 _ hA10 rfl
    refine WL.valw (R.loadH (v := (str x8)) S rfl hA10 lay9 rfl) ?_
    refine WL.valw (R.as (v := (str x8)) rfl) ?_
    refine WL.valw (R.as (v := (boo true)) rfl) ?_
    refine WL.nil ?_
    obtain rfl := Option.some.inj h
    refine WP.ret (Out.two rfl S rfl rfl ?_)
    exact rfl
set_option maxRecDepth 10000 in
set_option maxHeartbeats 4000000 in
theorem ascii_Number_ok {w0 : World} {H0 : Hp} (hw : Holds w0 H0) (p_s : Str) {r : (Int × Bool)} (h : ascii_Number p_s = some r) :
    Con Tryd.prog 76 [(str p_s)] w0 H0 (fun H' v => v = (.tuple ⟨[(int r.1), (boo r.2)]⟩)) := by
  refine Con.mk (N := 34) Tryd.func76 rfl rfl (by kernel_rfl) rfl ?_
  have S := St.start hw
  refine WP.seq ?_
  refine WP.region ?_
  refine WL.valw (R.as (v := (int 0)) rfl) ?_
  refine WL.valw (R.as (v := (boo false)) rfl) ?_
  refine WL.nil ?_
  refine WP.seq ?_
  refine WP.region ?_
  refine WL.valw (R.as (v := (int 0)) rfl) ?_
  refine WL.nil ?_
  refine WP.seq ?_
  refine WP.seq ?_
  refine WP.region ?_
  refine WL.valw (R.mv (v := (str p_s)) rfl) ?_
  refine WL.valw (R.lenS (a := p_s) rfl Tryd.underlying9) ?_
  refine WL.valw (R.mv (v := (int 0)) rfl) ?_
  refine WL.nil ?_
  obtain ⟨r15, hr16, h⟩ := bindE h
  refine WP.cut (fun f w => match r15 with | .inl n_10 => ∃ (H8 : Hp), f 0 = (str p_s) ∧ f 4 = (int n_10) ∧ St w0 H0 w H8 [] | .inr _ => False) ?_ ?_
  · refine WP.block ?_
    refine WP.loopM (ascii_Number_L0 p_s) (fun s f w => match s with | (n_3, y_6) => ∃ (H1 : Hp), f 0 = (str p_s) ∧ f 4 = (int n_3) ∧ f 7 = (int (p_s.length : Int)) ∧ f 8 = (int y_6) ∧ St w0 H0 w H1 []) (0, 0) r15 hr16 ?_ ?_
    · exact ⟨H0, rfl, rfl, rfl, rfl, S⟩
    · intro s f w hI y12 hy13 hy14
      obtain ⟨n_3, y_6⟩ := s
      obtain ⟨H1, h2, h4, h5, h7, S⟩ := hI
      refine WP.seq ?_
      refine WP.region ?_
      refine WL.valw (R.lss h7 h5) ?_
      refine WL.nil ?_
      refine WP.seq ?_
      rcases condE hy13 with ⟨hc17, hy13⟩ | ⟨hc17, hy13⟩
      · refine WP.condT rfl hc17 ?_
        refine WP.skip ?_
        refine WP.seq ?_
        refine WP.block ?_
        refine WP.seq ?_
        refine WP.region ?_
        refine WL.valw (R.mv (v := (int y_6)) h7) ?_
        refine WL.valw (R.as (v := (int y_6)) rfl) ?_
        refine WL.nil ?_
        refine WP.seq ?_
        refine WP.seq ?_
        refine WP.region ?_
        refine WL.valw (R.mv (v := (str p_s)) h2) ?_
        refine WL.valw (R.mv (v := (int y_6)) rfl) ?_
        obtain ⟨c18, hc18, hy13⟩ := bindE hy13
        refine WL.valw (R.idxS rfl rfl Tryd.underlying9 hc18) ?_
        refine WL.valw (R.lss8 (a := c18) (b := 48) rfl rfl) ?_
        refine WL.valw (R.mv (v := (boo (decide (c18 < 48)))) rfl) ?_
        obtain ⟨b22, hg20, hy13⟩ := bindE hy13
        refine WL.grp 5 [16, 17, 18, 19] 20 (boo b22) ?_ ?_
        · rcases boolE (decide (c18 < 48)) with hb19 | hb19
          · replace hg20 := condT hg20 hb19
            refine WL.gno rfl rfl hb19 ?_
            refine WL.gno rfl rfl hb19 ?_
            refine WL.gno rfl rfl hb19 ?_
            refine WL.gno rfl rfl hb19 ?_
            refine WL.valw (R.pickT rfl hb19 rfl) ?_
            exact WL.nil ⟨(congrArg boo (Option.some.inj hg20)), (by repeat (first | refine agree_upd rfl ?_ | refine agree_upds' rfl ?_ | exact agree_refl)), rfl⟩
          · replace hg20 := condF hg20 hb19
            refine WL.gyes rfl rfl hb19 ?_
            refine WL.valw (R.mv (v := (str p_s)) h2) ?_
            refine WL.gyes rfl rfl hb19 ?_
            refine WL.valw (R.mv (v := (int y_6)) rfl) ?_
            refine WL.gyes rfl rfl hb19 ?_
            obtain ⟨c21, hc21, hg20⟩ := bindE hg20
            refine WL.valw (R.idxS rfl rfl Tryd.underlying9 hc21) ?_
            refine WL.gyes rfl rfl hb19 ?_
            refine WL.valw (R.gtr8 (a := c21) (b := 57) rfl rfl) ?_
            refine WL.valw (R.pickF rfl hb19 rfl) ?_
            exact WL.nil ⟨(congrArg boo (Option.some.inj hg20)), (by repeat (first | refine agree_upd rfl ?_ | refine agree_upds' rfl ?_ | exact agree_refl)), rfl⟩
        · intro us
          refine WL.nil ?_
          rcases condE hy13 with ⟨hc23, hy13⟩ | ⟨hc23, hy13⟩
          · refine WP.condT rfl hc23 ?_
            refine WP.seq ?_
            refine WP.region ?_
            refine WL.valw (R.as (v := (int 0)) rfl) ?_
            refine WL.valw (R.as (v := (boo false)) rfl) ?_
            refine WL.nil ?_
            obtain rfl := Option.some.inj hy13
            obtain rfl := hy14
            obtain rfl := Option.some.inj h
            refine WP.ret (Out.two rfl S rfl rfl ?_)
            exact rfl
          · refine WP.condF rfl hc23 ?_
            refine WP.skip ?_
            refine WP.region ?_
            refine WL.valw (R.mv (v := (int n_3)) h4) ?_
            refine WL.valw (R.mul rfl rfl) ?_
            refine WL.valw (R.mv (v := (str p_s)) h2) ?_
            refine WL.valw (R.mv (v := (int y_6)) rfl) ?_
            obtain ⟨c24, hc24, hy13⟩ := bindE hy13
            refine WL.valw (R.idxS rfl rfl Tryd.underlying9 hc24) ?_
            refine WL.valw (R.sub8 (a := c24) (b := 48) rfl rfl) ?_
            refine WL.valw (R.i64of8 (a := c24 - 48) rfl Tryd.underlying5 Tryd.underlying2) ?_
            refine WL.valw (R.add rfl rfl) ?_
            refine WL.valw (R.min rfl rfl) ?_
            refine WL.valw (R.as (v := (int (if 2147483647 < (wr ((wr (10 * n_3)) + ((c24 - 48).toNat : Int))) then 2147483647 else (wr ((wr (10 * n_3)) + ((c24 - 48).toNat : Int)))))) rfl) ?_
            refine WL.nil ?_
            refine WP.region ?_
            refine WL.valw (R.add h7 rfl) ?_
            refine WL.valw (R.mv (v := (int (wr (y_6 + 1)))) rfl) ?_
            refine WL.nil ?_
            obtain rfl := Option.some.inj hy13
            exact ⟨rfl, ⟨H1, h2, rfl, h5, rfl, S⟩⟩
      · refine WP.condF rfl hc17 ?_
        refine WP.exit ?_
        obtain rfl := Option.some.inj hy13
        obtain rfl := hy14
        exact ⟨H1, h2, h4, S⟩
  · intro f w hM
    rcases r15 with n_10 | e
    · obtain ⟨H8, h9, h11, S⟩ := hM
      refine WP.seq ?_
      refine WP.region ?_
      refine WL.valw (R.mv (v := (int n_10)) h11) ?_
      refine WL.valw (R.mv (v := (str p_s)) h9) ?_
      refine WL.valw (R.neqS (a := p_s) (b := []) rfl rfl) ?_
      refine WL.valw (R.as (v := (int n_10)) rfl) ?_
      refine WL.valw (R.as (v := (boo (p_s != []))) rfl) ?_
      refine WL.nil ?_
      obtain rfl := Option.some.inj h
      refine WP.ret (Out.two rfl S rfl rfl ?_)
      exact rfl
    · exact hM.elim
set_option maxRecDepth 10000 in
set_option maxHeartbeats 4000000 in
theorem date_index_ok {w0 : World} {H0 : Hp} (hw : Holds w0 H0) (p_n : Int) (p_name : (Int → Option Str)) (p_s : Str) {kp_name : FuncId} {cp_name : List Value} (Fp_name : ∀ {w : World} {H : Hp}, H0.le H → Holds w H → ∀ (x0 : Int) (rr : Str), p_name x0 = some rr → Con Tryd.prog kp_name ([(int x0)] ++ cp_name) w H (fun H' v => v = (str rr))) {r : Int} (h : date_index p_n p_name p_s = some r) :
    Con Tryd.prog 127 [(int p_n), (.func (.func kp_name) #[] cp_name.toArray), (str p_s)] w0 H0 (fun H' v => v = (int r)) := by
  refine Con.mk (N := 19) Tryd.func127 rfl rfl (by kernel_rfl) rfl ?_
  have S := St.start hw
  refine WP.seq ?_
  refine WP.region ?_
  refine WL.valw (R.as (v := (int 0)) rfl) ?_
  refine WL.nil ?_
  refine WP.seq ?_
  refine WP.seq ?_
  refine WP.region ?_
  refine WL.valw (R.mv (v := (int p_n)) rfl) ?_
  refine WL.valw (R.mv (v := (int 0)) rfl) ?_
  refine WL.nil ?_
  obtain ⟨r11, hr12, h⟩ := bindE h
  refine WP.cut (fun f w => match r11 with | .inl _ => ∃ (H7 : Hp), St w0 H0 w H7 [] | .inr _ => False) ?_ ?_
  · refine WP.block ?_
    refine WP.loopM (date_index_L0 p_n p_name p_s) (fun s f w => match s with | y_5 => ∃ (H1 : Hp), f 1 = (.func (.func kp_name) #[] cp_name.toArray) ∧ f 2 = (str p_s) ∧ f 8 = (int p_n) ∧ f 9 = (int y_5) ∧ St w0 H0 w H1 []) 0 r11 hr12 ?_ ?_
    · exact ⟨H0, rfl, rfl, rfl, rfl, S⟩
    · intro y_5 f w hI y8 hy9 hy10
      obtain ⟨H1, h2, h3, h4, h6, S⟩ := hI
      refine WP.seq ?_
      refine WP.region ?_
      refine WL.valw (R.lss h6 h4) ?_
      refine WL.nil ?_
      refine WP.seq ?_
      rcases condE hy9 with ⟨hc13, hy9⟩ | ⟨hc13, hy9⟩
      · refine WP.condT rfl hc13 ?_
        refine WP.skip ?_
        refine WP.seq ?_
        refine WP.block ?_
        refine WP.seq ?_
        refine WP.region ?_
        refine WL.valw (R.mv (v := (int y_5)) h6) ?_
        refine WL.valw (R.as (v := (int y_5)) rfl) ?_
        refine WL.nil ?_
        refine WP.seq ?_
        refine WP.region ?_
        refine WL.valw (R.mv (v := (.func (.func kp_name) #[] cp_name.toArray)) h2) ?_
        refine WL.valw (R.mv (v := (int y_5)) rfl) ?_
        obtain ⟨r14, hr14, hy9⟩ := bindE hy9
        refine W.callv S rfl rfl (Fp_name (S.post.le) S.holds y_5 _ hr14) ?_
        rintro v15 w16 H17 hle18 S rfl
        refine WL.valw (R.mv (v := (str p_s)) h3) ?_
        refine WL.valw (R.eqlS (a := r14) (b := p_s) rfl rfl) ?_
        refine WL.nil ?_
        rcases condE hy9 with ⟨hc19, hy9⟩ | ⟨hc19, hy9⟩
        · refine WP.condT rfl hc19 ?_
          refine WP.seq ?_
          refine WP.region ?_
          refine WL.valw (R.mv (v := (int y_5)) rfl) ?_
          refine WL.valw (R.as (v := (int y_5)) rfl) ?_
          refine WL.nil ?_
          obtain rfl := Option.some.inj hy9
          obtain rfl := hy10
          obtain rfl := Option.some.inj h
          refine WP.ret (Out.one rfl S rfl ?_)
          exact rfl
        · refine WP.condF rfl hc19 ?_
          refine WP.skip ?_
          refine WP.region ?_
          refine WL.valw (R.add h6 rfl) ?_
          refine WL.valw (R.mv (v := (int (wr (y_5 + 1)))) rfl) ?_
          refine WL.nil ?_
          obtain rfl := Option.some.inj hy9
          exact ⟨rfl, ⟨H17, h2, h3, h4, rfl, S⟩⟩
      · refine WP.condF rfl hc13 ?_
        refine WP.exit ?_
        obtain rfl := Option.some.inj hy9
        obtain rfl := hy10
        exact ⟨H1, S⟩
  · intro f w hM
    rcases r11 with _ | e
    · obtain ⟨H7, S⟩ := hM
      refine WP.seq ?_
      refine WP.region ?_
      refine WL.valw (R.as (v := (int (-1))) rfl) ?_
      refine WL.nil ?_
      obtain rfl := Option.some.inj h
      refine WP.ret (Out.one rfl S rfl ?_)
      exact rfl
    · exact hM.elim
set_option maxRecDepth 10000 in
set_option maxHeartbeats 4000000 in
theorem date_monthName_ok {w0 : World} {H0 : Hp} (hw : Holds w0 H0) (p_i : Int) {r : Str} (h : date_monthName p_i = some r) :
    Con Tryd.prog 128 [(int p_i)] w0 H0 (fun H' v => v = (str r)) := by
  refine Con.mk (N := 6) Tryd.func128 rfl rfl (by kernel_rfl) rfl ?_
  have S := St.start hw
  refine WP.seq ?_
  refine WP.region ?_
  refine WL.valw (R.as (v := (str [])) rfl) ?_
  refine WL.nil ?_
  refine WP.seq ?_
  refine WP.region ?_
  refine WL.valw (R.buildArr [(0, (str [74, 97, 110])), (1, (str [70, 101, 98])), (2, (str [77, 97, 114])), (3, (str [65, 112, 114])), (4, (str [77, 97, 121])), (5, (str [74, 117, 110])), (6, (str [74, 117, 108])), (7, (str [65, 117, 103])), (8, (str [83, 101, 112])), (9, (str [79, 99, 116])), (10, (str [78, 111, 118])), (11, (str [68, 101, 99]))] [(str [74, 97, 110]), (str [70, 101, 98]), (str [77, 97, 114]), (str [65, 112, 114]), (str [77, 97, 121]), (str [74, 117, 110]), (str [74, 117, 108]), (str [65, 117, 103]), (str [83, 101, 112]), (str [79, 99, 116]), (str [78, 111, 118]), (str [68, 101, 99])] Tryd.underlying137 lay9 zer137 rfl rfl) ?_
  refine WL.valw (R.mv (v := (int p_i)) rfl) ?_
  obtain ⟨s1, hs1, h⟩ := bindE h
  refine WL.valw (R.idxA str (l := ([[74, 97, 110], [70, 101, 98], [77, 97, 114], [65, 112, 114], [77, 97, 121], [74, 117, 110], [74, 117, 108], [65, 117, 103], [83, 101, 112], [79, 99, 116], [78, 111, 118], [68, 101, 99]] : List Str)) rfl rfl Tryd.underlying137 lay9 rfl hs1) ?_
  refine WL.valw (R.as (v := (str s1)) rfl) ?_
  refine WL.nil ?_
  obtain rfl := Option.some.inj h
  refine WP.ret (Out.one rfl S rfl ?_)
  exact rfl
set_option maxRecDepth 10000 in
set_option maxHeartbeats 4000000 in
theorem date_leap_ok {w0 : World} {H0 : Hp} (hw : Holds w0 H0) (p_year : Int) {r : Bool} (h : date_leap p_year = some r) :
    Con Tryd.prog 146 [(int p_year)] w0 H0 (fun H' v => v = (boo r)) := by
  refine Con.mk (N := 16) Tryd.func146 rfl rfl (by kernel_rfl) rfl ?_
  have S := St.start hw
  refine WP.seq ?_
  refine WP.region ?_
  refine WL.valw (R.as (v := (boo false)) rfl) ?_
  refine WL.nil ?_
  refine WP.seq ?_
  refine WP.region ?_
  refine WL.valw (R.mv (v := (int p_year)) rfl) ?_
  obtain ⟨n1, hn1, h⟩ := bindE h
  refine WL.valw (R.rem' rfl rfl hn1) ?_
  refine WL.valw (R.eql rfl rfl) ?_
  refine WL.valw (R.mv (v := (boo (n1 == 0))) rfl) ?_
  obtain ⟨b9, hg3, h⟩ := bindE h
  refine WL.grp 9 [7, 8, 9, 10, 11, 12, 13, 14] 15 (boo b9) ?_ ?_
  · rcases boolE (n1 == 0) with hb2 | hb2
    · replace hg3 := condT hg3 hb2
      refine WL.gyes rfl rfl hb2 ?_
      refine WL.valw (R.mv (v := (int p_year)) rfl) ?_
      refine WL.gyes rfl rfl hb2 ?_
      obtain ⟨n4, hn4, hg3⟩ := bindE hg3
      refine WL.valw (R.rem' rfl rfl hn4) ?_
      refine WL.gyes rfl rfl hb2 ?_
      refine WL.valw (R.neq rfl rfl) ?_
      refine WL.gyes rfl rfl hb2 ?_
      refine WL.valw (R.mv (v := (boo (n4 != 0))) rfl) ?_
      obtain ⟨b8, hg6, hg3⟩ := bindE hg3
      refine WL.grp 4 [11, 12, 13] 14 (boo b8) ?_ ?_
      · rcases boolE (n4 != 0) with hb5 | hb5
        · replace hg6 := condT hg6 hb5
          refine WL.gno rfl rfl hb5 ?_
          refine WL.gno rfl rfl hb5 ?_
          refine WL.gno rfl rfl hb5 ?_
          refine WL.gyes rfl rfl hb2 ?_
          refine WL.valw (R.pickT rfl hb5 rfl) ?_
          exact WL.nil ⟨(congrArg boo (Option.some.inj hg6)), (by repeat (first | refine agree_upd rfl ?_ | refine agree_upds' rfl ?_ | exact agree_refl)), rfl⟩
        · replace hg6 := condF hg6 hb5
          refine WL.gyes rfl rfl hb5 ?_
          refine WL.valw (R.mv (v := (int p_year)) rfl) ?_
          refine WL.gyes rfl rfl hb5 ?_
          obtain ⟨n7, hn7, hg6⟩ := bindE hg6
          refine WL.valw (R.rem' rfl rfl hn7) ?_
          refine WL.gyes rfl rfl hb5 ?_
          refine WL.valw (R.eql rfl rfl) ?_
          refine WL.gyes rfl rfl hb2 ?_
          refine WL.valw (R.pickF rfl hb5 rfl) ?_
          exact WL.nil ⟨(congrArg boo (Option.some.inj hg6)), (by repeat (first | refine agree_upd rfl ?_ | refine agree_upds' rfl ?_ | exact agree_refl)), rfl⟩
      · intro us
        refine WL.valw (R.pickT rfl hb2 rfl) ?_
        exact WL.nil ⟨(congrArg boo (Option.some.inj hg3)), (by repeat (first | refine agree_upd rfl ?_ | refine agree_upds' rfl ?_ | exact agree_refl)), rfl⟩
    · replace hg3 := condF hg3 hb2
      refine WL.gno rfl rfl hb2 ?_
      refine WL.gno rfl rfl hb2 ?_
      refine WL.gno rfl rfl hb2 ?_
      refine WL.gno rfl rfl hb2 ?_
      refine WL.gund rfl rfl ?_
      refine WL.gund rfl rfl ?_
      refine WL.gund rfl rfl ?_
      refine WL.gno rfl rfl hb2 ?_
      refine WL.valw (R.pickF rfl hb2 rfl) ?_
      exact WL.nil ⟨(congrArg boo (Option.some.inj hg3)), (by repeat (first | refine agree_upd rfl ?_ | refine agree_upds' rfl ?_ | exact agree_refl)), rfl⟩
  · intro us
    refine WL.valw (R.as (v := (boo b9)) rfl) ?_
    refine WL.nil ?_
    obtain rfl := Option.some.inj h
    refine WP.ret (Out.one rfl S rfl ?_)
    exact rfl
set_option maxRecDepth 10000 in
set_option maxHeartbeats 4000000 in
theorem date_length_ok {w0 : World} {H0 : Hp} (hw : Holds w0 H0) (p_year : Int) (p_month : Int) {r : Int} (h : date_length p_year p_month = some r) :
    Con Tryd.prog 138 [(int p_year), (int p_month)] w0 H0 (fun H' v => v = (int r)) := by
  refine Con.mk (N := 15) Tryd.func138 rfl rfl (by kernel_rfl) rfl ?_
  have S := St.start hw
  refine WP.seq ?_
  refine WP.region ?_
  refine WL.valw (R.as (v := (int 0)) rfl) ?_
  refine WL.nil ?_
  refine WP.seq ?_
  refine WP.seq ?_
  refine WP.region ?_
  refine WL.valw (R.mv (v := (int p_month)) rfl) ?_
  refine WL.valw (R.eql rfl rfl) ?_
  refine WL.valw (R.mv (v := (boo (p_month == 2))) rfl) ?_
  obtain ⟨b8, hg2, h⟩ := bindE h
  refine WL.grpw 3 [8, 9] 10 (boo b8) (fun w => ∃ H' : Hp, H0.le H' ∧ St w0 H0 w H' []) ?_ ?_
  · rcases boolE (p_month == 2) with hb1 | hb1
    · replace hg2 := condT hg2 hb1
      refine WL.gyes rfl rfl hb1 ?_
      refine WL.valw (R.mv (v := (int p_year)) rfl) ?_
      refine WL.gyes rfl rfl hb1 ?_
      obtain ⟨r3, hr3, hg2⟩ := bindE hg2
      refine W.call S rfl (date_leap_ok S.holds p_year hr3) ?_
      rintro v4 w5 H6 hle7 S rfl
      refine WL.valw (R.pickT rfl hb1 rfl) ?_
      exact WL.nil ⟨(congrArg boo (Option.some.inj hg2)), (by repeat (first | refine agree_upd rfl ?_ | refine agree_upds' rfl ?_ | exact agree_refl)), ⟨H6, hle7, S⟩⟩
    · replace hg2 := condF hg2 hb1
      refine WL.gno rfl rfl hb1 ?_
      refine WL.gno rfl rfl hb1 ?_
      refine WL.valw (R.pickF rfl hb1 rfl) ?_
      exact WL.nil ⟨(congrArg boo (Option.some.inj hg2)), (by repeat (first | refine agree_upd rfl ?_ | refine agree_upds' rfl ?_ | exact agree_refl)), ⟨H0, (Hp.le.refl _), S⟩⟩
  · intro us w10 ⟨H9, hle11, S⟩
    refine WL.nil ?_
    rcases condE h with ⟨hc12, h⟩ | ⟨hc12, h⟩
    · refine WP.condT rfl hc12 ?_
      refine WP.seq ?_
      refine WP.region ?_
      refine WL.valw (R.as (v := (int 29)) rfl) ?_
      refine WL.nil ?_
      obtain rfl := Option.some.inj h
      refine WP.ret (Out.one rfl S rfl ?_)
      exact rfl
    · refine WP.condF rfl hc12 ?_
      refine WP.skip ?_
      refine WP.seq ?_
      refine WP.region ?_
      refine WL.valw (R.buildArr [(0, (int 31)), (1, (int 28)), (2, (int 31)), (3, (int 30)), (4, (int 31)), (5, (int 30)), (6, (int 31)), (7, (int 31)), (8, (int 30)), (9, (int 31)), (10, (int 30)), (11, (int 31))] [(int 31), (int 28), (int 31), (int 30), (int 31), (int 30), (int 31), (int 31), (int 30), (int 31), (int 30), (int 31)] Tryd.underlying144 lay3 zer144 rfl rfl) ?_
      refine WL.valw (R.mv (v := (int p_month)) rfl) ?_
      refine WL.valw (R.sub rfl rfl) ?_
      obtain ⟨n13, hn13, h⟩ := bindE h
      refine WL.valw (R.idxA int (l := ([31, 28, 31, 30, 31, 30, 31, 31, 30, 31, 30, 31] : List Int)) rfl rfl Tryd.underlying144 lay3 rfl hn13) ?_
      refine WL.valw (R.as (v := (int n13)) rfl) ?_
      refine WL.nil ?_
      obtain rfl := Option.some.inj h
      refine WP.ret (Out.one rfl S rfl ?_)
      exact rfl
set_option maxRecDepth 10000 in
set_option maxHeartbeats 4000000 in
theorem date_before_ok {w0 : World} {H0 : Hp} (hw : Holds w0 H0) (p_year : Int) {r : Int} (h : date_before p_year = some r) :
    Con Tryd.prog 139 [(int p_year)] w0 H0 (fun H' v => v = (int r)) := by
  refine Con.mk (N := 17) Tryd.func139 rfl rfl (by kernel_rfl) rfl ?_
  have S := St.start hw
  refine WP.seq ?_
  refine WP.region ?_
  refine WL.valw (R.as (v := (int 0)) rfl) ?_
  refine WL.nil ?_
  refine WP.seq ?_
  refine WP.region ?_
  refine WL.valw (R.mv (v := (int p_year)) rfl) ?_
  refine WL.valw (R.sub rfl rfl) ?_
  refine WL.valw (R.as (v := (int (wr (p_year - 1)))) rfl) ?_
  refine WL.nil ?_
  refine WP.seq ?_
  refine WP.region ?_
  refine WL.valw (R.mv (v := (int (wr (p_year - 1)))) rfl) ?_
  refine WL.valw (R.mul rfl rfl) ?_
  refine WL.valw (R.mv (v := (int (wr (p_year - 1)))) rfl) ?_
  obtain ⟨n1, hn1, h⟩ := bindE h
  refine WL.valw (R.quo' rfl rfl hn1) ?_
  refine WL.valw (R.add rfl rfl) ?_
  refine WL.valw (R.mv (v := (int (wr (p_year - 1)))) rfl) ?_
  obtain ⟨n2, hn2, h⟩ := bindE h
  refine WL.valw (R.quo' rfl rfl hn2) ?_
  refine WL.valw (R.sub rfl rfl) ?_
  refine WL.valw (R.mv (v := (int (wr (p_year - 1)))) rfl) ?_
  obtain ⟨n3, hn3, h⟩ := bindE h
  refine WL.valw (R.quo' rfl rfl hn3) ?_
  refine WL.valw (R.add rfl rfl) ?_
  refine WL.valw (R.as (v := (int (wr ((wr ((wr ((wr (365 * (wr (p_year - 1)))) + n1)) - n2)) + n3)))) rfl) ?_
  refine WL.nil ?_
  obtain rfl := Option.some.inj h
  refine WP.ret (Out.one rfl S rfl ?_)
  exact rfl
end Go.Proofs
