/- A part of the proof of laws of the seat: written by program over the translation. -/
import Derived.Test.YtmeemcjmhbgbdaaGreatDoorGenF5
namespace Go.Proofs
open Go.Eng Go.Eng.Pure
set_option linter.unusedVariables false
set_option maxRecDepth 10000 in
set_option maxHeartbeats 4000000 in
theorem ref19_directive_ok {w0 : World} {H0 : Hp} (hw : Holds w0 H0) (p_m : (List Str)) (p_name : Str) {vp_m : Value} (Rp_m : Sl (α := Str) H0 vp_m p_m) {r : (Str × Bool)} (h : ref19_directive p_m p_name = some r) :
    Con Tryz.prog 47 [vp_m, (str p_name)] w0 H0 (fun H' v => v = (.tuple ⟨[(str r.1), (boo r.2)]⟩)) := by
  refine Con.mk (N := 50) Tryz.func47 rfl rfl (by kernel_rfl) rfl ?_
  have S := St.start hw
  refine WP.seq ?_
  refine WP.region ?_
  refine WL.valw (R.as (v := (str [])) rfl) ?_
  refine WL.valw (R.as (v := (boo false)) rfl) ?_
  refine WL.nil ?_
  refine WP.seq ?_
  refine WP.seq ?_
  refine WP.region ?_
  refine WL.valw (R.as (v := (int 0)) rfl) ?_
  refine WL.nil ?_
  obtain ⟨r10, hr11, h⟩ := bindE h
  refine WP.cut (fun f w => match r10 with | .inl _ => ∃ (H6 : Hp), St w0 H0 w H6 [] | .inr _ => False) ?_ ?_
  · refine WP.block ?_
    refine WP.loopM (ref19_directive_L1 p_m p_name) (fun s f w => match s with | i_4 => ∃ (H1 : Hp), f 0 = vp_m ∧ f 1 = (str p_name) ∧ f 6 = (int i_4) ∧ Sl (α := Str) H1 vp_m p_m ∧ St w0 H0 w H1 []) 0 r10 hr11 ?_ ?_
    · exact ⟨H0, rfl, rfl, rfl, Rp_m, S⟩
    · intro i_4 f w hI y7 hy8 hy9
      obtain ⟨H1, h2, h3, h5, Rp_m, S⟩ := hI
      refine WP.seq ?_
      refine WP.seq ?_
      refine WP.region ?_
      refine WL.valw (R.mv (v := (int i_4)) h5) ?_
      refine WL.valw (R.mv (v := vp_m) h2) ?_
      refine WL.valw (R.lenL (α := Str) (xs := p_m) (H := H1) Rp_m rfl Tryz.underlying38) ?_
      refine WL.valw (R.lss rfl rfl) ?_
      refine WL.nil ?_
      rcases condE hy8 with ⟨hc12, hy8⟩ | ⟨hc12, hy8⟩
      · refine WP.condT rfl hc12 ?_
        refine WP.skip ?_
        refine WP.seq ?_
        refine WP.block ?_
        refine WP.seq ?_
        refine WP.region ?_
        refine WL.valw (R.as (v := (int 0)) rfl) ?_
        refine WL.nil ?_
        refine WP.seq ?_
        obtain ⟨k_23, hr29, hy8⟩ := bindE hy8
        refine WP.cut (fun f w => ∃ (H19 : Hp), f 0 = vp_m ∧ f 1 = (str p_name) ∧ f 6 = (int i_4) ∧ f 7 = (int k_23) ∧ Sl (α := Str) H19 vp_m p_m ∧ St w0 H0 w H19 []) ?_ ?_
        · refine WP.block ?_
          refine WP.loopM (ref19_directive_L0 p_m i_4) (fun s f w => match s with | k_17 => ∃ (H13 : Hp), f 0 = vp_m ∧ f 1 = (str p_name) ∧ f 6 = (int i_4) ∧ f 7 = (int k_17) ∧ Sl (α := Str) H13 vp_m p_m ∧ St w0 H0 w H13 []) 0 k_23 hr29 ?_ ?_
          · exact ⟨H1, h2, h3, h5, rfl, Rp_m, S⟩
          · intro k_17 f w hI y25 hy26 hy27
            obtain ⟨H13, h14, h15, h16, h18, Rp_m, S⟩ := hI
            refine WP.seq ?_
            refine WP.seq ?_
            refine WP.region ?_
            refine WL.valw (R.mv (v := (int k_17)) h18) ?_
            refine WL.valw (R.mv (v := vp_m) h14) ?_
            refine WL.valw (R.mv (v := (int i_4)) h16) ?_
            obtain ⟨x30, hx30, hy26⟩ := bindE hy26
            refine W.idx (α := Str) Rp_m rfl rfl el38 hx30 ?_
            rintro a31 _ hA32 rfl
            refine WL.valw (R.loadH (v := (str x30)) S rfl hA32 lay9 rfl) ?_
            refine WL.valw (R.lenS (a := x30) rfl Tryz.underlying9) ?_
            refine WL.valw (R.lss rfl rfl) ?_
            refine WL.valw (R.mv (v := (boo (decide (k_17 < (x30.length : Int))))) rfl) ?_
            obtain ⟨b44, hg34, hy26⟩ := bindE hy26
            refine WL.grpw 8 [22, 23, 24, 25, 26, 27, 28] 29 (boo b44) (fun w => ∃ H' : Hp, H13.le H' ∧ St w0 H0 w H' []) ?_ ?_
            · rcases boolE (decide (k_17 < (x30.length : Int))) with hb33 | hb33
              · replace hg34 := condT hg34 hb33
                refine WL.gyes rfl rfl hb33 ?_
                refine WL.valw (R.mv (v := vp_m) h14) ?_
                refine WL.gyes rfl rfl hb33 ?_
                refine WL.valw (R.mv (v := (int i_4)) h16) ?_
                refine WL.gyes rfl rfl hb33 ?_
                obtain ⟨x35, hx35, hg34⟩ := bindE hg34
                refine W.idx (α := Str) Rp_m rfl rfl el38 hx35 ?_
                rintro a36 _ hA37 rfl
                refine WL.gyes rfl rfl hb33 ?_
                refine WL.valw (R.loadH (v := (str x35)) S rfl hA37 lay9 rfl) ?_
                refine WL.gyes rfl rfl hb33 ?_
                refine WL.valw (R.mv (v := (int k_17)) h18) ?_
                refine WL.gyes rfl rfl hb33 ?_
                obtain ⟨c38, hc38, hg34⟩ := bindE hg34
                refine WL.valw (R.idxS rfl rfl Tryz.underlying9 hc38) ?_
                refine WL.gyes rfl rfl hb33 ?_
                obtain ⟨r39, hr39, hg34⟩ := bindE hg34
                refine W.call S rfl (ref01_TokenByte_ok S.holds c38 hr39) ?_
                rintro v40 w41 H42 hle43 S rfl
                have Rp_m := Sl.mono Rp_m hle43
                have hA32 := At.mono hA32 hle43 (by simp)
                have hA37 := At.mono hA37 hle43 (by simp)
                refine WL.valw (R.pickT rfl hb33 rfl) ?_
                exact WL.nil ⟨(congrArg boo (Option.some.inj hg34)), (by repeat (first | refine agree_upd rfl ?_ | refine agree_upds' rfl ?_ | exact agree_refl)), ⟨H42, hle43, S⟩⟩
              · replace hg34 := condF hg34 hb33
                refine WL.gno rfl rfl hb33 ?_
                refine WL.gno rfl rfl hb33 ?_
                refine WL.gno rfl rfl hb33 ?_
                refine WL.gno rfl rfl hb33 ?_
                refine WL.gno rfl rfl hb33 ?_
                refine WL.gno rfl rfl hb33 ?_
                refine WL.gno rfl rfl hb33 ?_
                refine WL.valw (R.pickF rfl hb33 rfl) ?_
                exact WL.nil ⟨(congrArg boo (Option.some.inj hg34)), (by repeat (first | refine agree_upd rfl ?_ | refine agree_upds' rfl ?_ | exact agree_refl)), ⟨H13, (Hp.le.refl _), S⟩⟩
            · intro us w46 ⟨H45, hle47, S⟩
              have Rp_m := Sl.mono Rp_m hle47
              have hA32 := At.mono hA32 hle47 (by simp)
              refine WL.nil ?_
              rcases condE hy26 with ⟨hc48, hy26⟩ | ⟨hc48, hy26⟩
              · refine WP.condT rfl hc48 ?_
                refine WP.skip ?_
                refine WP.block ?_
                refine WP.region ?_
                refine WL.valw (R.mv (v := (int k_17)) h18) ?_
                refine WL.valw (R.add rfl rfl) ?_
                refine WL.valw (R.as (v := (int (wr (k_17 + 1)))) rfl) ?_
                refine WL.nil ?_
                obtain rfl := Option.some.inj hy26
                exact ⟨rfl, ⟨H45, h14, h15, h16, rfl, Rp_m, S⟩⟩
              · refine WP.condF rfl hc48 ?_
                refine WP.exit ?_
                obtain rfl := Option.some.inj hy26
                obtain rfl := hy27
                exact ⟨H45, h14, h15, h16, h18, Rp_m, S⟩
        · rintro f w ⟨H19, h20, h21, h22, h24, Rp_m, S⟩
          refine WP.seq ?_
          refine WP.region ?_
          refine WL.valw (R.mv (v := (int k_23)) h24) ?_
          refine WL.valw (R.gtr rfl rfl) ?_
          refine WL.valw (R.mv (v := (boo (decide (0 < k_23)))) rfl) ?_
          obtain ⟨b60, hg50, hy8⟩ := bindE hy8
          refine WL.grpw 9 [35, 36, 37, 38, 39, 40, 41, 42] 43 (boo b60) (fun w => ∃ H' : Hp, H19.le H' ∧ St w0 H0 w H' []) ?_ ?_
          · rcases boolE (decide (0 < k_23)) with hb49 | hb49
            · replace hg50 := condT hg50 hb49
              refine WL.gyes rfl rfl hb49 ?_
              refine WL.valw (R.mv (v := vp_m) h20) ?_
              refine WL.gyes rfl rfl hb49 ?_
              refine WL.valw (R.mv (v := (int i_4)) h22) ?_
              refine WL.gyes rfl rfl hb49 ?_
              obtain ⟨x51, hx51, hg50⟩ := bindE hg50
              refine W.idx (α := Str) Rp_m rfl rfl el38 hx51 ?_
              rintro a52 _ hA53 rfl
              refine WL.gyes rfl rfl hb49 ?_
              refine WL.valw (R.loadH (v := (str x51)) S rfl hA53 lay9 rfl) ?_
              refine WL.gyes rfl rfl hb49 ?_
              refine WL.valw (R.mv (v := (int k_23)) h24) ?_
              refine WL.gyes rfl rfl hb49 ?_
              obtain ⟨s54, hs54, hg50⟩ := bindE hg50
              refine WL.valw (R.subShi rfl rfl Tryz.underlying9 hs54) ?_
              refine WL.gyes rfl rfl hb49 ?_
              refine WL.valw (R.mv (v := (str p_name)) h21) ?_
              refine WL.gyes rfl rfl hb49 ?_
              obtain ⟨r55, hr55, hg50⟩ := bindE hg50
              refine W.call S rfl (ref01_Fold_ok S.holds s54 p_name hr55) ?_
              rintro v56 w57 H58 hle59 S rfl
              have Rp_m := Sl.mono Rp_m hle59
              have hA53 := At.mono hA53 hle59 (by simp)
              refine WL.valw (R.pickT rfl hb49 rfl) ?_
              exact WL.nil ⟨(congrArg boo (Option.some.inj hg50)), (by repeat (first | refine agree_upd rfl ?_ | refine agree_upds' rfl ?_ | exact agree_refl)), ⟨H58, hle59, S⟩⟩
            · replace hg50 := condF hg50 hb49
              refine WL.gno rfl rfl hb49 ?_
              refine WL.gno rfl rfl hb49 ?_
              refine WL.gno rfl rfl hb49 ?_
              refine WL.gno rfl rfl hb49 ?_
              refine WL.gno rfl rfl hb49 ?_
              refine WL.gno rfl rfl hb49 ?_
              refine WL.gno rfl rfl hb49 ?_
              refine WL.gno rfl rfl hb49 ?_
              refine WL.valw (R.pickF rfl hb49 rfl) ?_
              exact WL.nil ⟨(congrArg boo (Option.some.inj hg50)), (by repeat (first | refine agree_upd rfl ?_ | refine agree_upds' rfl ?_ | exact agree_refl)), ⟨H19, (Hp.le.refl _), S⟩⟩
          · intro us w62 ⟨H61, hle63, S⟩
            have Rp_m := Sl.mono Rp_m hle63
            refine WL.nil ?_
            rcases condE hy8 with ⟨hc64, hy8⟩ | ⟨hc64, hy8⟩
            · refine WP.condT rfl hc64 ?_
              refine WP.seq ?_
              refine WP.region ?_
              refine WL.valw (R.mv (v := vp_m) h20) ?_
              refine WL.valw (R.mv (v := (int i_4)) h22) ?_
              obtain ⟨x65, hx65, hy8⟩ := bindE hy8
              refine W.idx (α := Str) Rp_m rfl rfl el38 hx65 ?_
              rintro a66 _ hA67 rfl
              refine WL.valw (R.loadH (v := (str x65)) S rfl hA67 lay9 rfl) ?_
              refine WL.valw (R.mv (v := (int k_23)) h24) ?_
              obtain ⟨s68, hs68, hy8⟩ := bindE hy8
              refine WL.valw (R.subSlo rfl rfl Tryz.underlying9 hs68) ?_
              refine WL.valw (R.as (v := (str s68)) rfl) ?_
              refine WL.valw (R.as (v := (boo true)) rfl) ?_
              refine WL.nil ?_
              obtain rfl := Option.some.inj hy8
              obtain rfl := hy9
              obtain rfl := Option.some.inj h
              refine WP.ret (Out.two rfl S rfl rfl ?_)
              exact rfl
            · refine WP.condF rfl hc64 ?_
              refine WP.skip ?_
              refine WP.region ?_
              refine WL.valw (R.mv (v := (int i_4)) h22) ?_
              refine WL.valw (R.add rfl rfl) ?_
              refine WL.valw (R.as (v := (int (wr (i_4 + 1)))) rfl) ?_
              refine WL.nil ?_
              obtain rfl := Option.some.inj hy8
              exact ⟨rfl, ⟨H61, h20, h21, rfl, Rp_m, S⟩⟩
      · refine WP.condF rfl hc12 ?_
        refine WP.exit ?_
        obtain rfl := Option.some.inj hy8
        obtain rfl := hy9
        exact ⟨H1, S⟩
  · intro f w hM
    rcases r10 with _ | e
    · obtain ⟨H6, S⟩ := hM
      refine WP.seq ?_
      refine WP.region ?_
      refine WL.valw (R.as (v := (str [])) rfl) ?_
      refine WL.valw (R.as (v := (boo false)) rfl) ?_
      refine WL.nil ?_
      obtain rfl := Option.some.inj h
      refine WP.ret (Out.two rfl S rfl rfl ?_)
      exact rfl
    · exact hM.elim
set_option maxRecDepth 10000 in
set_option maxHeartbeats 4000000 in
theorem ref01_Token_ok {w0 : World} {H0 : Hp} (hw : Holds w0 H0) (p_s : Str) {r : Bool} (h : ref01_Token p_s = some r) :
    Con Tryz.prog 49 [(str p_s)] w0 H0 (fun H' v => v = (boo r)) := by
  refine Con.mk (N := 17) Tryz.func49 rfl rfl (by kernel_rfl) rfl ?_
  have S := St.start hw
  refine WP.seq ?_
  refine WP.region ?_
  refine WL.valw (R.as (v := (boo false)) rfl) ?_
  refine WL.nil ?_
  refine WP.seq ?_
  refine WP.seq ?_
  refine WP.region ?_
  refine WL.valw (R.as (v := (int 0)) rfl) ?_
  refine WL.nil ?_
  obtain ⟨r10, hr11, h⟩ := bindE h
  refine WP.cut (fun f w => match r10 with | .inl _ => ∃ (H5 : Hp), f 0 = (str p_s) ∧ St w0 H0 w H5 [] | .inr _ => False) ?_ ?_
  · refine WP.block ?_
    refine WP.loopM (ref01_Token_L0 p_s) (fun s f w => match s with | i_3 => ∃ (H1 : Hp), f 0 = (str p_s) ∧ f 3 = (int i_3) ∧ St w0 H0 w H1 []) 0 r10 hr11 ?_ ?_
    · exact ⟨H0, rfl, rfl, S⟩
    · intro i_3 f w hI y7 hy8 hy9
      obtain ⟨H1, h2, h4, S⟩ := hI
      refine WP.seq ?_
      refine WP.seq ?_
      refine WP.region ?_
      refine WL.valw (R.mv (v := (int i_3)) h4) ?_
      refine WL.valw (R.mv (v := (str p_s)) h2) ?_
      refine WL.valw (R.lenS (a := p_s) rfl Tryz.underlying9) ?_
      refine WL.valw (R.lss rfl rfl) ?_
      refine WL.nil ?_
      rcases condE hy8 with ⟨hc12, hy8⟩ | ⟨hc12, hy8⟩
      · refine WP.condT rfl hc12 ?_
        refine WP.skip ?_
        refine WP.seq ?_
        refine WP.block ?_
        refine WP.seq ?_
        refine WP.region ?_
        refine WL.valw (R.mv (v := (str p_s)) h2) ?_
        refine WL.valw (R.mv (v := (int i_3)) h4) ?_
        obtain ⟨c13, hc13, hy8⟩ := bindE hy8
        refine WL.valw (R.idxS rfl rfl Tryz.underlying9 hc13) ?_
        obtain ⟨r14, hr14, hy8⟩ := bindE hy8
        refine W.call S rfl (ref01_TokenByte_ok S.holds c13 hr14) ?_
        rintro v15 w16 H17 hle18 S rfl
        refine WL.valw (R.not rfl) ?_
        refine WL.nil ?_
        rcases condE hy8 with ⟨hc19, hy8⟩ | ⟨hc19, hy8⟩
        · refine WP.condT rfl hc19 ?_
          refine WP.seq ?_
          refine WP.region ?_
          refine WL.valw (R.as (v := (boo false)) rfl) ?_
          refine WL.nil ?_
          obtain rfl := Option.some.inj hy8
          obtain rfl := hy9
          obtain rfl := Option.some.inj h
          refine WP.ret (Out.one rfl S rfl ?_)
          exact rfl
        · refine WP.condF rfl hc19 ?_
          refine WP.skip ?_
          refine WP.region ?_
          refine WL.valw (R.mv (v := (int i_3)) h4) ?_
          refine WL.valw (R.add rfl rfl) ?_
          refine WL.valw (R.as (v := (int (wr (i_3 + 1)))) rfl) ?_
          refine WL.nil ?_
          obtain rfl := Option.some.inj hy8
          exact ⟨rfl, ⟨H17, h2, rfl, S⟩⟩
      · refine WP.condF rfl hc12 ?_
        refine WP.exit ?_
        obtain rfl := Option.some.inj hy8
        obtain rfl := hy9
        exact ⟨H1, h2, S⟩
  · intro f w hM
    rcases r10 with _ | e
    · obtain ⟨H5, h6, S⟩ := hM
      refine WP.seq ?_
      refine WP.region ?_
      refine WL.valw (R.mv (v := (str p_s)) h6) ?_
      refine WL.valw (R.neqS (a := p_s) (b := []) rfl rfl) ?_
      refine WL.valw (R.as (v := (boo (p_s != []))) rfl) ?_
      refine WL.nil ?_
      obtain rfl := Option.some.inj h
      refine WP.ret (Out.one rfl S rfl ?_)
      exact rfl
    · exact hM.elim
set_option maxRecDepth 10000 in
set_option maxHeartbeats 4000000 in
theorem ref01_textByte_ok {w0 : World} {H0 : Hp} (hw : Holds w0 H0) (p_c : UInt8) {r : Bool} (h : ref01_textByte p_c = some r) :
    Con Tryz.prog 110 [(byt p_c)] w0 H0 (fun H' v => v = (boo r)) := by
  refine Con.mk (N := 17) Tryz.func110 rfl rfl (by kernel_rfl) rfl ?_
  have S := St.start hw
  refine WP.seq ?_
  refine WP.region ?_
  refine WL.valw (R.as (v := (boo false)) rfl) ?_
  refine WL.nil ?_
  refine WP.seq ?_
  refine WP.region ?_
  refine WL.valw (R.mv (v := (byt p_c)) rfl) ?_
  refine WL.valw (R.eql8 (a := p_c) (b := 9) rfl rfl) ?_
  refine WL.valw (R.mv (v := (boo (p_c == 9))) rfl) ?_
  refine WL.grp 7 [6, 7, 8, 9, 10, 11] 12 (boo ((p_c == 9) || ((decide (32 ≤ p_c)) && (decide (p_c ≤ 126))))) ?_ ?_
  · rcases boolE (p_c == 9) with hb1 | hb1
    · refine WL.gno rfl rfl hb1 ?_
      refine WL.gno rfl rfl hb1 ?_
      refine WL.gno rfl rfl hb1 ?_
      refine WL.gund rfl rfl ?_
      refine WL.gund rfl rfl ?_
      refine WL.gno rfl rfl hb1 ?_
      refine WL.valw (R.pickT rfl hb1 rfl) ?_
      exact WL.nil ⟨(orT hb1), (by repeat (first | refine agree_upd rfl ?_ | refine agree_upds' rfl ?_ | exact agree_refl)), rfl⟩
    · refine WL.gyes rfl rfl hb1 ?_
      refine WL.valw (R.mv (v := (byt p_c)) rfl) ?_
      refine WL.gyes rfl rfl hb1 ?_
      refine WL.valw (R.geq8 (a := p_c) (b := 32) rfl rfl) ?_
      refine WL.gyes rfl rfl hb1 ?_
      refine WL.valw (R.mv (v := (boo (decide (32 ≤ p_c)))) rfl) ?_
      refine WL.grp 3 [9, 10] 11 (boo ((decide (32 ≤ p_c)) && (decide (p_c ≤ 126)))) ?_ ?_
      · rcases boolE (decide (32 ≤ p_c)) with hb3 | hb3
        · refine WL.gyes rfl rfl hb3 ?_
          refine WL.valw (R.mv (v := (byt p_c)) rfl) ?_
          refine WL.gyes rfl rfl hb3 ?_
          refine WL.valw (R.leq8 (a := p_c) (b := 126) rfl rfl) ?_
          refine WL.gyes rfl rfl hb1 ?_
          refine WL.valw (R.pickT rfl hb3 rfl) ?_
          exact WL.nil ⟨(andT hb3), (by repeat (first | refine agree_upd rfl ?_ | refine agree_upds' rfl ?_ | exact agree_refl)), rfl⟩
        · refine WL.gno rfl rfl hb3 ?_
          refine WL.gno rfl rfl hb3 ?_
          refine WL.gyes rfl rfl hb1 ?_
          refine WL.valw (R.pickF rfl hb3 rfl) ?_
          exact WL.nil ⟨(andF hb3), (by repeat (first | refine agree_upd rfl ?_ | refine agree_upds' rfl ?_ | exact agree_refl)), rfl⟩
      · intro us
        refine WL.valw (R.pickF rfl hb1 rfl) ?_
        exact WL.nil ⟨(orF hb1), (by repeat (first | refine agree_upd rfl ?_ | refine agree_upds' rfl ?_ | exact agree_refl)), rfl⟩
  · intro us
    refine WL.valw (R.mv (v := (boo ((p_c == 9) || ((decide (32 ≤ p_c)) && (decide (p_c ≤ 126)))))) rfl) ?_
    refine WL.grp 3 [14, 15] 16 (boo (((p_c == 9) || ((decide (32 ≤ p_c)) && (decide (p_c ≤ 126)))) || (decide (128 ≤ p_c)))) ?_ ?_
    · rcases boolE ((p_c == 9) || ((decide (32 ≤ p_c)) && (decide (p_c ≤ 126)))) with hb5 | hb5
      · refine WL.gno rfl rfl hb5 ?_
        refine WL.gno rfl rfl hb5 ?_
        refine WL.valw (R.pickT rfl hb5 rfl) ?_
        exact WL.nil ⟨(orT hb5), (by repeat (first | refine agree_upd rfl ?_ | refine agree_upds' rfl ?_ | exact agree_refl)), rfl⟩
      · refine WL.gyes rfl rfl hb5 ?_
        refine WL.valw (R.mv (v := (byt p_c)) rfl) ?_
        refine WL.gyes rfl rfl hb5 ?_
        refine WL.valw (R.geq8 (a := p_c) (b := 128) rfl rfl) ?_
        refine WL.valw (R.pickF rfl hb5 rfl) ?_
        exact WL.nil ⟨(orF hb5), (by repeat (first | refine agree_upd rfl ?_ | refine agree_upds' rfl ?_ | exact agree_refl)), rfl⟩
    · intro us
      refine WL.valw (R.as (v := (boo (((p_c == 9) || ((decide (32 ≤ p_c)) && (decide (p_c ≤ 126)))) || (decide (128 ≤ p_c))))) rfl) ?_
      refine WL.nil ?_
      obtain rfl := Option.some.inj h
      refine WP.ret (Out.one rfl S rfl ?_)
      exact rfl
set_option maxRecDepth 10000 in
set_option maxHeartbeats 4000000 in
theorem ref01_Unquote_ok {w0 : World} {H0 : Hp} (hw : Holds w0 H0) (p_s : Str) {r : (Str × Bool)} (h : ref01_Unquote p_s = some r) :
    Con Tryz.prog 96 [(str p_s)] w0 H0 (fun H' v => v = (.tuple ⟨[(str r.1), (boo r.2)]⟩)) := by
  refine Con.mk (N := 60) Tryz.func96 rfl rfl (by kernel_rfl) rfl ?_
  have S := St.start hw
  refine WP.seq ?_
  refine WP.region ?_
  refine WL.valw (R.as (v := (str [])) rfl) ?_
  refine WL.valw (R.as (v := (boo false)) rfl) ?_
  refine WL.nil ?_
  refine WP.seq ?_
  refine WP.seq ?_
  refine WP.region ?_
  refine WL.valw (R.mv (v := (str p_s)) rfl) ?_
  refine WL.valw (R.lenS (a := p_s) rfl Tryz.underlying9) ?_
  refine WL.valw (R.lss rfl rfl) ?_
  refine WL.valw (R.mv (v := (boo (decide ((p_s.length : Int) < 2)))) rfl) ?_
  obtain ⟨b4, hg2, h⟩ := bindE h
  refine WL.grp 4 [10, 11, 12] 13 (boo b4) ?_ ?_
  · rcases boolE (decide ((p_s.length : Int) < 2)) with hb1 | hb1
    · replace hg2 := condT hg2 hb1
      refine WL.gno rfl rfl hb1 ?_
      refine WL.gno rfl rfl hb1 ?_
      refine WL.gno rfl rfl hb1 ?_
      refine WL.valw (R.pickT rfl hb1 rfl) ?_
      exact WL.nil ⟨(congrArg boo (Option.some.inj hg2)), (by repeat (first | refine agree_upd rfl ?_ | refine agree_upds' rfl ?_ | exact agree_refl)), rfl⟩
    · replace hg2 := condF hg2 hb1
      refine WL.gyes rfl rfl hb1 ?_
      refine WL.valw (R.mv (v := (str p_s)) rfl) ?_
      refine WL.gyes rfl rfl hb1 ?_
      obtain ⟨c3, hc3, hg2⟩ := bindE hg2
      refine WL.valw (R.idxS rfl rfl Tryz.underlying9 hc3) ?_
      refine WL.gyes rfl rfl hb1 ?_
      refine WL.valw (R.neq8 (a := c3) (b := 34) rfl rfl) ?_
      refine WL.valw (R.pickF rfl hb1 rfl) ?_
      exact WL.nil ⟨(congrArg boo (Option.some.inj hg2)), (by repeat (first | refine agree_upd rfl ?_ | refine agree_upds' rfl ?_ | exact agree_refl)), rfl⟩
  · intro us
    refine WL.valw (R.mv (v := (boo b4)) rfl) ?_
    obtain ⟨b8, hg6, h⟩ := bindE h
    refine WL.grp 7 [15, 16, 17, 18, 19, 20] 21 (boo b8) ?_ ?_
    · rcases boolE b4 with hb5 | hb5
      · replace hg6 := condT hg6 hb5
        refine WL.gno rfl rfl hb5 ?_
        refine WL.gno rfl rfl hb5 ?_
        refine WL.gno rfl rfl hb5 ?_
        refine WL.gno rfl rfl hb5 ?_
        refine WL.gno rfl rfl hb5 ?_
        refine WL.gno rfl rfl hb5 ?_
        refine WL.valw (R.pickT rfl hb5 rfl) ?_
        exact WL.nil ⟨(congrArg boo (Option.some.inj hg6)), (by repeat (first | refine agree_upd rfl ?_ | refine agree_upds' rfl ?_ | exact agree_refl)), rfl⟩
      · replace hg6 := condF hg6 hb5
        refine WL.gyes rfl rfl hb5 ?_
        refine WL.valw (R.mv (v := (str p_s)) rfl) ?_
        refine WL.gyes rfl rfl hb5 ?_
        refine WL.valw (R.mv (v := (str p_s)) rfl) ?_
        refine WL.gyes rfl rfl hb5 ?_
        refine WL.valw (R.lenS (a := p_s) rfl Tryz.underlying9) ?_
        refine WL.gyes rfl rfl hb5 ?_
        refine WL.valw (R.sub rfl rfl) ?_
        refine WL.gyes rfl rfl hb5 ?_
        obtain ⟨c7, hc7, hg6⟩ := bindE hg6
        refine WL.valw (R.idxS rfl rfl Tryz.underlying9 hc7) ?_
        refine WL.gyes rfl rfl hb5 ?_
        refine WL.valw (R.neq8 (a := c7) (b := 34) rfl rfl) ?_
        refine WL.valw (R.pickF rfl hb5 rfl) ?_
        exact WL.nil ⟨(congrArg boo (Option.some.inj hg6)), (by repeat (first | refine agree_upd rfl ?_ | refine agree_upds' rfl ?_ | exact agree_refl)), rfl⟩
    · intro us
      refine WL.nil ?_
      rcases condE h with ⟨hc9, h⟩ | ⟨hc9, h⟩
      · refine WP.condT rfl hc9 ?_
        refine WP.seq ?_
        refine WP.region ?_
        refine WL.valw (R.as (v := (str [])) rfl) ?_
        refine WL.valw (R.as (v := (boo false)) rfl) ?_
        refine WL.nil ?_
        obtain rfl := Option.some.inj h
        refine WP.ret (Out.two rfl S rfl rfl ?_)
        exact rfl
      · refine WP.condF rfl hc9 ?_
        refine WP.skip ?_
        refine WP.seq ?_
        refine WP.region ?_
        refine WL.valw (R.mv (v := (str p_s)) rfl) ?_
        refine WL.valw (R.mv (v := (str p_s)) rfl) ?_
        refine WL.valw (R.lenS (a := p_s) rfl Tryz.underlying9) ?_
        refine WL.valw (R.sub rfl rfl) ?_
        obtain ⟨s10, hs10, h⟩ := bindE h
        refine WL.valw (R.subS rfl rfl rfl Tryz.underlying9 hs10) ?_
        refine WL.valw (R.as (v := (str s10)) rfl) ?_
        refine WL.nil ?_
        refine WP.seq ?_
        refine WP.region ?_
        refine WL.valw (R.as (v := (.slice none 0 0)) rfl) ?_
        refine WL.nil ?_
        refine WP.seq ?_
        refine WP.seq ?_
        refine WP.region ?_
        refine WL.valw (R.as (v := (int 0)) rfl) ?_
        refine WL.nil ?_
        have S := S.addNil 5 1
        obtain ⟨r27, hr28, h⟩ := bindE h
        refine WP.cut (fun f w => match r27 with | .inl b_20 => ∃ (H19 : Hp) (v21 : Value), f 4 = v21 ∧ Sl (α := UInt8) H19 v21 b_20 ∧ St w0 H0 w H19 [.row v21 5 1 b_20.length] | .inr _ => False) ?_ ?_
        · refine WP.block ?_
          refine WP.loopM (ref01_Unquote_L0 s10) (fun s f w => match s with | (b_13, i_17) => ∃ (H11 : Hp) (v14 : Value), f 0 = (str s10) ∧ f 4 = v14 ∧ f 5 = (int i_17) ∧ Sl (α := UInt8) H11 v14 b_13 ∧ St w0 H0 w H11 [.row v14 5 1 b_13.length]) (([] : List UInt8), 0) r27 hr28 ?_ ?_
          · exact ⟨H0, .slice none 0 0, rfl, rfl, rfl, Sl.nil, S⟩
          · intro s f w hI y24 hy25 hy26
            obtain ⟨b_13, i_17⟩ := s
            obtain ⟨H11, v14, h12, h16, h18, R15, S⟩ := hI
            refine WP.seq ?_
            refine WP.seq ?_
            refine WP.region ?_
            refine WL.valw (R.mv (v := (int i_17)) h18) ?_
            refine WL.valw (R.mv (v := (str s10)) h12) ?_
            refine WL.valw (R.lenS (a := s10) rfl Tryz.underlying9) ?_
            refine WL.valw (R.lss rfl rfl) ?_
            refine WL.nil ?_
            rcases condE hy25 with ⟨hc29, hy25⟩ | ⟨hc29, hy25⟩
            · refine WP.condT rfl hc29 ?_
              refine WP.skip ?_
              refine WP.seq ?_
              refine WP.block ?_
              refine WP.seq ?_
              refine WP.seq ?_
              refine WP.region ?_
              refine WL.valw (R.mv (v := (str s10)) h12) ?_
              refine WL.valw (R.mv (v := (int i_17)) h18) ?_
              obtain ⟨c30, hc30, hy25⟩ := bindE hy25
              refine WL.valw (R.idxS rfl rfl Tryz.underlying9 hc30) ?_
              refine WL.valw (R.eql8 (a := c30) (b := 34) rfl rfl) ?_
              refine WL.nil ?_
              rcases condE hy25 with ⟨hc31, hy25⟩ | ⟨hc31, hy25⟩
              · refine WP.condT rfl hc31 ?_
                refine WP.seq ?_
                refine WP.region ?_
                refine WL.valw (R.as (v := (str [])) rfl) ?_
                refine WL.valw (R.as (v := (boo false)) rfl) ?_
                refine WL.nil ?_
                obtain rfl := Option.some.inj hy25
                obtain rfl := hy26
                obtain rfl := Option.some.inj h
                refine WP.ret (Out.two rfl S rfl rfl ?_)
                exact rfl
              · refine WP.condF rfl hc31 ?_
                refine WP.skip ?_
                refine WP.seq ?_
                refine WP.seq ?_
                refine WP.region ?_
                refine WL.valw (R.mv (v := (str s10)) h12) ?_
                refine WL.valw (R.mv (v := (int i_17)) h18) ?_
                obtain ⟨c32, hc32, hy25⟩ := bindE hy25
                refine WL.valw (R.idxS rfl rfl Tryz.underlying9 hc32) ?_
                refine WL.valw (R.eql8 (a := c32) (b := 92) rfl rfl) ?_
                refine WL.nil ?_
                obtain ⟨j39, hj38, hy25⟩ := bindE hy25
                refine WP.cut (fun f w => match j39 with | .inl i_36 => ∃ (H33 : Hp), f 0 = (str s10) ∧ f 4 = v14 ∧ f 5 = (int i_36) ∧ Sl (α := UInt8) H33 v14 b_13 ∧ St w0 H0 w H33 [.row v14 5 1 b_13.length] | .inr _ => False) ?_ ?_
                · rcases condE hj38 with ⟨hc40, hj38⟩ | ⟨hc40, hj38⟩
                  · refine WP.condT rfl hc40 ?_
                    refine WP.seq ?_
                    refine WP.region ?_
                    refine WL.valw (R.mv (v := (int i_17)) h18) ?_
                    refine WL.valw (R.add rfl rfl) ?_
                    refine WL.valw (R.as (v := (int (wr (i_17 + 1)))) rfl) ?_
                    refine WL.nil ?_
                    refine WP.seq ?_
                    refine WP.region ?_
                    refine WL.valw (R.mv (v := (int (wr (i_17 + 1)))) rfl) ?_
                    refine WL.valw (R.mv (v := (str s10)) h12) ?_
                    refine WL.valw (R.lenS (a := s10) rfl Tryz.underlying9) ?_
                    refine WL.valw (R.eql rfl rfl) ?_
                    refine WL.nil ?_
                    rcases condE hj38 with ⟨hc41, hj38⟩ | ⟨hc41, hj38⟩
                    · refine WP.condT rfl hc41 ?_
                      refine WP.seq ?_
                      refine WP.region ?_
                      refine WL.valw (R.as (v := (str [])) rfl) ?_
                      refine WL.valw (R.as (v := (boo false)) rfl) ?_
                      refine WL.nil ?_
                      obtain rfl := Option.some.inj hj38
                      obtain rfl := Option.some.inj hy25
                      obtain rfl := hy26
                      obtain rfl := Option.some.inj h
                      refine WP.ret (Out.two rfl S rfl rfl ?_)
                      exact rfl
                    · refine WP.condF rfl hc41 ?_
                      refine WP.skip ?_
                      obtain rfl := Option.some.inj hj38
                      exact ⟨H11, h12, h16, rfl, R15, S⟩
                  · refine WP.condF rfl hc40 ?_
                    refine WP.skip ?_
                    obtain rfl := Option.some.inj hj38
                    exact ⟨H11, h12, h16, h18, R15, S⟩
                · intro f w hM
                  rcases j39 with i_36 | e
                  · obtain ⟨H33, h34, h35, h37, R15, S⟩ := hM
                    refine WP.seq ?_
                    refine WP.seq ?_
                    refine WP.region ?_
                    refine WL.valw (R.mv (v := (str s10)) h34) ?_
                    refine WL.valw (R.mv (v := (int i_36)) h37) ?_
                    obtain ⟨c42, hc42, hy25⟩ := bindE hy25
                    refine WL.valw (R.idxS rfl rfl Tryz.underlying9 hc42) ?_
                    obtain ⟨r43, hr43, hy25⟩ := bindE hy25
                    refine W.call S rfl (ref01_textByte_ok S.holds c42 hr43) ?_
                    rintro v44 w45 H46 hle47 S rfl
                    have R15 := Sl.mono R15 hle47
                    refine WL.valw (R.not rfl) ?_
                    refine WL.nil ?_
                    rcases condE hy25 with ⟨hc48, hy25⟩ | ⟨hc48, hy25⟩
                    · refine WP.condT rfl hc48 ?_
                      refine WP.seq ?_
                      refine WP.region ?_
                      refine WL.valw (R.as (v := (str [])) rfl) ?_
                      refine WL.valw (R.as (v := (boo false)) rfl) ?_
                      refine WL.nil ?_
                      obtain rfl := Option.some.inj hy25
                      obtain rfl := hy26
                      obtain rfl := Option.some.inj h
                      refine WP.ret (Out.two rfl S rfl rfl ?_)
                      exact rfl
                    · refine WP.condF rfl hc48 ?_
                      refine WP.skip ?_
                      refine WP.region ?_
                      refine WL.valw (R.mv (v := v14) h35) ?_
                      refine WL.valw (R.mv (v := (str s10)) h34) ?_
                      refine WL.valw (R.mv (v := (int i_36)) h37) ?_
                      obtain ⟨c49, hc49, hy25⟩ := bindE hy25
                      refine WL.valw (R.idxS rfl rfl Tryz.underlying9 hc49) ?_
                      refine W.bslice (α := UInt8) [(byt c49)] ([c49] : List UInt8) S el86 rfl rfl rfl (by decide) (Go.Eng.encS ⟨rfl, rfl⟩ enc0) ?_
                      intro u50 w51 H52 hle53 R54 S
                      have R15 := Sl.mono R15 hle53
                      obtain ⟨l55, hl55, hy25⟩ := bindE hy25
                      refine W.app (α := UInt8) (i := 1) S el86 rfl rfl rfl R15 R54 hl55 ?_
                      intro v56 w57 H58 hle59 R60 S
                      have R15 := Sl.mono R15 hle59
                      have R54 := Sl.mono R54 hle59
                      refine WL.valw (R.as (v := v56) rfl) ?_
                      refine WL.nil ?_
                      refine WP.region ?_
                      refine WL.valw (R.mv (v := (int i_36)) h37) ?_
                      refine WL.valw (R.add rfl rfl) ?_
                      refine WL.valw (R.as (v := (int (wr (i_36 + 1)))) rfl) ?_
                      refine WL.nil ?_
                      obtain rfl := Option.some.inj hy25
                      exact ⟨rfl, ⟨H58, v56, h34, rfl, rfl, R60, (S.drop _ (.cons _ (.cons_cons _ .slnil)))⟩⟩
                  · exact hM.elim
            · refine WP.condF rfl hc29 ?_
              refine WP.exit ?_
              obtain rfl := Option.some.inj hy25
              obtain rfl := hy26
              exact ⟨H11, v14, h16, R15, S⟩
        · intro f w hM
          rcases r27 with b_20 | e
          · obtain ⟨H19, v21, h23, R22, S⟩ := hM
            refine WP.seq ?_
            refine WP.region ?_
            refine WL.valw (R.mv (v := v21) h23) ?_
            refine WL.valw (R.strL S R22 rfl Tryz.underlying86 Tryz.underlying9 Tryz.underlying5) ?_
            refine WL.valw (R.as (v := (str b_20)) rfl) ?_
            refine WL.valw (R.as (v := (boo true)) rfl) ?_
            refine WL.nil ?_
            obtain rfl := Option.some.inj h
            refine WP.ret (Out.two rfl S rfl rfl ?_)
            exact rfl
          · exact hM.elim
set_option maxRecDepth 10000 in
set_option maxHeartbeats 4000000 in
theorem ref19_argument_ok {w0 : World} {H0 : Hp} (hw : Holds w0 H0) (p_rest : Str) {r : (Str × Bool)} (h : ref19_argument p_rest = some r) :
    Con Tryz.prog 71 [(str p_rest)] w0 H0 (fun H' v => v = (.tuple ⟨[(str r.1), (boo r.2)]⟩)) := by
  refine Con.mk (N := 21) Tryz.func71 rfl rfl (by kernel_rfl) rfl ?_
  have S := St.start hw
  refine WP.seq ?_
  refine WP.region ?_
  refine WL.valw (R.as (v := (str [])) rfl) ?_
  refine WL.valw (R.as (v := (boo false)) rfl) ?_
  refine WL.nil ?_
  refine WP.seq ?_
  refine WP.seq ?_
  refine WP.region ?_
  refine WL.valw (R.mv (v := (str p_rest)) rfl) ?_
  refine WL.valw (R.eqlS (a := p_rest) (b := []) rfl rfl) ?_
  refine WL.valw (R.mv (v := (boo (p_rest == []))) rfl) ?_
  obtain ⟨b4, hg2, h⟩ := bindE h
  refine WL.grp 4 [7, 8, 9] 10 (boo b4) ?_ ?_
  · rcases boolE (p_rest == []) with hb1 | hb1
    · replace hg2 := condT hg2 hb1
      refine WL.gno rfl rfl hb1 ?_
      refine WL.gno rfl rfl hb1 ?_
      refine WL.gno rfl rfl hb1 ?_
      refine WL.valw (R.pickT rfl hb1 rfl) ?_
      exact WL.nil ⟨(congrArg boo (Option.some.inj hg2)), (by repeat (first | refine agree_upd rfl ?_ | refine agree_upds' rfl ?_ | exact agree_refl)), rfl⟩
    · replace hg2 := condF hg2 hb1
      refine WL.gyes rfl rfl hb1 ?_
      refine WL.valw (R.mv (v := (str p_rest)) rfl) ?_
      refine WL.gyes rfl rfl hb1 ?_
      obtain ⟨c3, hc3, hg2⟩ := bindE hg2
      refine WL.valw (R.idxS rfl rfl Tryz.underlying9 hc3) ?_
      refine WL.gyes rfl rfl hb1 ?_
      refine WL.valw (R.neq8 (a := c3) (b := 61) rfl rfl) ?_
      refine WL.valw (R.pickF rfl hb1 rfl) ?_
      exact WL.nil ⟨(congrArg boo (Option.some.inj hg2)), (by repeat (first | refine agree_upd rfl ?_ | refine agree_upds' rfl ?_ | exact agree_refl)), rfl⟩
  · intro us
    refine WL.nil ?_
    rcases condE h with ⟨hc5, h⟩ | ⟨hc5, h⟩
    · refine WP.condT rfl hc5 ?_
      refine WP.seq ?_
      refine WP.region ?_
      refine WL.valw (R.as (v := (str [])) rfl) ?_
      refine WL.valw (R.as (v := (boo false)) rfl) ?_
      refine WL.nil ?_
      obtain rfl := Option.some.inj h
      refine WP.ret (Out.two rfl S rfl rfl ?_)
      exact rfl
    · refine WP.condF rfl hc5 ?_
      refine WP.skip ?_
      refine WP.seq ?_
      refine WP.seq ?_
      refine WP.region ?_
      refine WL.valw (R.mv (v := (str p_rest)) rfl) ?_
      obtain ⟨s6, hs6, h⟩ := bindE h
      refine WL.valw (R.subSlo rfl rfl Tryz.underlying9 hs6) ?_
      obtain ⟨r7, hr7, h⟩ := bindE h
      refine W.call S rfl (ref01_Token_ok S.holds s6 hr7) ?_
      rintro v8 w9 H10 hle11 S rfl
      refine WL.nil ?_
      rcases condE h with ⟨hc12, h⟩ | ⟨hc12, h⟩
      · refine WP.condT rfl hc12 ?_
        refine WP.seq ?_
        refine WP.region ?_
        refine WL.valw (R.mv (v := (str p_rest)) rfl) ?_
        obtain ⟨s13, hs13, h⟩ := bindE h
        refine WL.valw (R.subSlo rfl rfl Tryz.underlying9 hs13) ?_
        refine WL.valw (R.as (v := (str s13)) rfl) ?_
        refine WL.valw (R.as (v := (boo true)) rfl) ?_
        refine WL.nil ?_
        obtain rfl := Option.some.inj h
        refine WP.ret (Out.two rfl S rfl rfl ?_)
        exact rfl
      · refine WP.condF rfl hc12 ?_
        refine WP.skip ?_
        refine WP.seq ?_
        refine WP.region ?_
        refine WL.valw (R.mv (v := (str p_rest)) rfl) ?_
        obtain ⟨s14, hs14, h⟩ := bindE h
        refine WL.valw (R.subSlo rfl rfl Tryz.underlying9 hs14) ?_
        obtain ⟨r15, hr15, h⟩ := bindE h
        refine W.call S rfl (ref01_Unquote_ok S.holds s14 hr15) ?_
        rintro v16 w17 H18 hle19 S rfl
        refine WL.valw (R.ext rfl rfl) ?_
        refine WL.valw (R.ext rfl rfl) ?_
        refine WL.valw (R.as (v := (str r15.1)) rfl) ?_
        refine WL.valw (R.as (v := (boo r15.2)) rfl) ?_
        refine WL.nil ?_
        obtain rfl := Option.some.inj h
        refine WP.ret (Out.two rfl S rfl rfl ?_)
        exact rfl
set_option maxRecDepth 10000 in
set_option maxHeartbeats 4000000 in
theorem ref01_Digit_ok {w0 : World} {H0 : Hp} (hw : Holds w0 H0) (p_c : UInt8) {r : Bool} (h : ref01_Digit p_c = some r) :
    Con Tryz.prog 97 [(byt p_c)] w0 H0 (fun H' v => v = (boo r)) := by
  refine Con.mk (N := 9) Tryz.func97 rfl rfl (by kernel_rfl) rfl ?_
  have S := St.start hw
  refine WP.seq ?_
  refine WP.region ?_
  refine WL.valw (R.as (v := (boo false)) rfl) ?_
  refine WL.nil ?_
  refine WP.seq ?_
  refine WP.region ?_
  refine WL.valw (R.mv (v := (byt p_c)) rfl) ?_
  refine WL.valw (R.geq8 (a := p_c) (b := 48) rfl rfl) ?_
  refine WL.valw (R.mv (v := (boo (decide (48 ≤ p_c)))) rfl) ?_
  refine WL.grp 3 [6, 7] 8 (boo ((decide (48 ≤ p_c)) && (decide (p_c ≤ 57)))) ?_ ?_
  · rcases boolE (decide (48 ≤ p_c)) with hb1 | hb1
    · refine WL.gyes rfl rfl hb1 ?_
      refine WL.valw (R.mv (v := (byt p_c)) rfl) ?_
      refine WL.gyes rfl rfl hb1 ?_
      refine WL.valw (R.leq8 (a := p_c) (b := 57) rfl rfl) ?_
      refine WL.valw (R.pickT rfl hb1 rfl) ?_
      exact WL.nil ⟨(andT hb1), (by repeat (first | refine agree_upd rfl ?_ | refine agree_upds' rfl ?_ | exact agree_refl)), rfl⟩
    · refine WL.gno rfl rfl hb1 ?_
      refine WL.gno rfl rfl hb1 ?_
      refine WL.valw (R.pickF rfl hb1 rfl) ?_
      exact WL.nil ⟨(andF hb1), (by repeat (first | refine agree_upd rfl ?_ | refine agree_upds' rfl ?_ | exact agree_refl)), rfl⟩
  · intro us
    refine WL.valw (R.as (v := (boo ((decide (48 ≤ p_c)) && (decide (p_c ≤ 57))))) rfl) ?_
    refine WL.nil ?_
    obtain rfl := Option.some.inj h
    refine WP.ret (Out.one rfl S rfl ?_)
    exact rfl
set_option maxRecDepth 10000 in
set_option maxHeartbeats 4000000 in
theorem ref01_Number_ok {w0 : World} {H0 : Hp} (hw : Holds w0 H0) (p_s : Str) {r : (Int × Bool)} (h : ref01_Number p_s = some r) :
    Con Tryz.prog 72 [(str p_s)] w0 H0 (fun H' v => v = (.tuple ⟨[(int r.1), (boo r.2)]⟩)) := by
  refine Con.mk (N := 30) Tryz.func72 rfl rfl (by kernel_rfl) rfl ?_
  have S := St.start hw
  refine WP.seq ?_
  refine WP.region ?_
  refine WL.valw (R.as (v := (int 0)) rfl) ?_
  refine WL.valw (R.as (v := (boo false)) rfl) ?_
  refine WL.nil ?_
  refine WP.seq ?_
  refine WP.region ?_
  refine WL.valw (R.as (v := (int 0)) rfl) ?_
  refine WL.nil ?_
  refine WP.seq ?_
  refine WP.seq ?_
  refine WP.region ?_
  refine WL.valw (R.as (v := (int 0)) rfl) ?_
  refine WL.nil ?_
  obtain ⟨r14, hr15, h⟩ := bindE h
  refine WP.cut (fun f w => match r14 with | .inl n_9 => ∃ (H7 : Hp), f 0 = (str p_s) ∧ f 4 = (int n_9) ∧ St w0 H0 w H7 [] | .inr _ => False) ?_ ?_
  · refine WP.block ?_
    refine WP.loopM (ref01_Number_L0 p_s) (fun s f w => match s with | (n_3, i_5) => ∃ (H1 : Hp), f 0 = (str p_s) ∧ f 4 = (int n_3) ∧ f 5 = (int i_5) ∧ St w0 H0 w H1 []) (0, 0) r14 hr15 ?_ ?_
    · exact ⟨H0, rfl, rfl, rfl, S⟩
    · intro s f w hI y11 hy12 hy13
      obtain ⟨n_3, i_5⟩ := s
      obtain ⟨H1, h2, h4, h6, S⟩ := hI
      refine WP.seq ?_
      refine WP.seq ?_
      refine WP.region ?_
      refine WL.valw (R.mv (v := (int i_5)) h6) ?_
      refine WL.valw (R.mv (v := (str p_s)) h2) ?_
      refine WL.valw (R.lenS (a := p_s) rfl Tryz.underlying9) ?_
      refine WL.valw (R.lss rfl rfl) ?_
      refine WL.nil ?_
      rcases condE hy12 with ⟨hc16, hy12⟩ | ⟨hc16, hy12⟩
      · refine WP.condT rfl hc16 ?_
        refine WP.skip ?_
        refine WP.seq ?_
        refine WP.block ?_
        refine WP.seq ?_
        refine WP.seq ?_
        refine WP.region ?_
        refine WL.valw (R.mv (v := (str p_s)) h2) ?_
        refine WL.valw (R.mv (v := (int i_5)) h6) ?_
        obtain ⟨c17, hc17, hy12⟩ := bindE hy12
        refine WL.valw (R.idxS rfl rfl Tryz.underlying9 hc17) ?_
        obtain ⟨r18, hr18, hy12⟩ := bindE hy12
        refine W.call S rfl (ref01_Digit_ok S.holds c17 hr18) ?_
        rintro v19 w20 H21 hle22 S rfl
        refine WL.valw (R.not rfl) ?_
        refine WL.nil ?_
        rcases condE hy12 with ⟨hc23, hy12⟩ | ⟨hc23, hy12⟩
        · refine WP.condT rfl hc23 ?_
          refine WP.seq ?_
          refine WP.region ?_
          refine WL.valw (R.as (v := (int 0)) rfl) ?_
          refine WL.valw (R.as (v := (boo false)) rfl) ?_
          refine WL.nil ?_
          obtain rfl := Option.some.inj hy12
          obtain rfl := hy13
          obtain rfl := Option.some.inj h
          refine WP.ret (Out.two rfl S rfl rfl ?_)
          exact rfl
        · refine WP.condF rfl hc23 ?_
          refine WP.skip ?_
          refine WP.seq ?_
          refine WP.region ?_
          refine WL.valw (R.mv (v := (int n_3)) h4) ?_
          refine WL.valw (R.mul rfl rfl) ?_
          refine WL.valw (R.mv (v := (str p_s)) h2) ?_
          refine WL.valw (R.mv (v := (int i_5)) h6) ?_
          obtain ⟨c24, hc24, hy12⟩ := bindE hy12
          refine WL.valw (R.idxS rfl rfl Tryz.underlying9 hc24) ?_
          refine WL.valw (R.sub8 (a := c24) (b := 48) rfl rfl) ?_
          refine WL.valw (R.i64of8 (a := c24 - 48) rfl Tryz.underlying5 Tryz.underlying3) ?_
          refine WL.valw (R.add rfl rfl) ?_
          refine WL.valw (R.as (v := (int (wr ((wr (n_3 * 10)) + ((c24 - 48).toNat : Int))))) rfl) ?_
          refine WL.nil ?_
          refine WP.seq ?_
          refine WP.region ?_
          refine WL.valw (R.mv (v := (int (wr ((wr (n_3 * 10)) + ((c24 - 48).toNat : Int))))) rfl) ?_
          refine WL.valw (R.gtr rfl rfl) ?_
          refine WL.nil ?_
          rcases condE hy12 with ⟨hc25, hy12⟩ | ⟨hc25, hy12⟩
          · refine WP.condT rfl hc25 ?_
            refine WP.region ?_
            refine WL.valw (R.as (v := (int 2147483647)) rfl) ?_
            refine WL.nil ?_
            refine WP.region ?_
            refine WL.valw (R.mv (v := (int i_5)) h6) ?_
            refine WL.valw (R.add rfl rfl) ?_
            refine WL.valw (R.as (v := (int (wr (i_5 + 1)))) rfl) ?_
            refine WL.nil ?_
            obtain rfl := Option.some.inj hy12
            exact ⟨rfl, ⟨H21, h2, rfl, rfl, S⟩⟩
          · refine WP.condF rfl hc25 ?_
            refine WP.skip ?_
            refine WP.region ?_
            refine WL.valw (R.mv (v := (int i_5)) h6) ?_
            refine WL.valw (R.add rfl rfl) ?_
            refine WL.valw (R.as (v := (int (wr (i_5 + 1)))) rfl) ?_
            refine WL.nil ?_
            obtain rfl := Option.some.inj hy12
            exact ⟨rfl, ⟨H21, h2, rfl, rfl, S⟩⟩
      · refine WP.condF rfl hc16 ?_
        refine WP.exit ?_
        obtain rfl := Option.some.inj hy12
        obtain rfl := hy13
        exact ⟨H1, h2, h4, S⟩
  · intro f w hM
    rcases r14 with n_9 | e
    · obtain ⟨H7, h8, h10, S⟩ := hM
      refine WP.seq ?_
      refine WP.region ?_
      refine WL.valw (R.mv (v := (int n_9)) h10) ?_
      refine WL.valw (R.mv (v := (str p_s)) h8) ?_
      refine WL.valw (R.neqS (a := p_s) (b := []) rfl rfl) ?_
      refine WL.valw (R.as (v := (int n_9)) rfl) ?_
      refine WL.valw (R.as (v := (boo (p_s != []))) rfl) ?_
      refine WL.nil ?_
      obtain rfl := Option.some.inj h
      refine WP.ret (Out.two rfl S rfl rfl ?_)
      exact rfl
    · exact hM.elim
set_option maxRecDepth 10000 in
set_option maxHeartbeats 4000000 in
theorem ref19_seconds_ok {w0 : World} {H0 : Hp} (hw : Holds w0 H0) (p_m : (List Str)) (p_name : Str) (p_none : Int) (p_bad : Int) {vp_m : Value} (Rp_m : Sl (α := Str) H0 vp_m p_m) {r : Int} (h : ref19_seconds p_m p_name p_none p_bad = some r) :
    Con Tryz.prog 48 [vp_m, (str p_name), (int p_none), (int p_bad)] w0 H0 (fun H' v => v = (int r)) := by
  refine Con.mk (N := 43) Tryz.func48 rfl rfl (by kernel_rfl) rfl ?_
  have S := St.start hw
  refine WP.seq ?_
  refine WP.region ?_
  refine WL.valw (R.as (v := (int 0)) rfl) ?_
  refine WL.nil ?_
  refine WP.seq ?_
  refine WP.region ?_
  refine WL.valw (R.mv (v := vp_m) rfl) ?_
  refine WL.valw (R.mv (v := (str p_name)) rfl) ?_
  obtain ⟨r1, hr1, h⟩ := bindE h
  refine W.call S rfl (ref19_directive_ok S.holds p_m p_name Rp_m hr1) ?_
  rintro v2 w3 H4 hle5 S rfl
  have Rp_m := Sl.mono Rp_m hle5
  refine WL.valw (R.mv (v := (.tuple ⟨[(str r1.1), (boo r1.2)]⟩)) rfl) ?_
  refine WL.valw (R.ext rfl rfl) ?_
  refine WL.valw (R.ext rfl rfl) ?_
  refine WL.valw (R.as (v := (str r1.1)) rfl) ?_
  refine WL.valw (R.as (v := (boo r1.2)) rfl) ?_
  refine WL.nil ?_
  refine WP.seq ?_
  refine WP.seq ?_
  refine WP.region ?_
  refine WL.valw (R.mv (v := (boo r1.2)) rfl) ?_
  refine WL.valw (R.not rfl) ?_
  refine WL.nil ?_
  rcases condE h with ⟨hc6, h⟩ | ⟨hc6, h⟩
  · refine WP.condT rfl hc6 ?_
    refine WP.seq ?_
    refine WP.region ?_
    refine WL.valw (R.as (v := (int (-1))) rfl) ?_
    refine WL.nil ?_
    obtain rfl := Option.some.inj h
    refine WP.ret (Out.one rfl S rfl ?_)
    exact rfl
  · refine WP.condF rfl hc6 ?_
    refine WP.skip ?_
    refine WP.seq ?_
    refine WP.seq ?_
    refine WP.region ?_
    refine WL.valw (R.mv (v := (str r1.1)) rfl) ?_
    refine WL.valw (R.eqlS (a := r1.1) (b := []) rfl rfl) ?_
    refine WL.nil ?_
    rcases condE h with ⟨hc7, h⟩ | ⟨hc7, h⟩
    · refine WP.condT rfl hc7 ?_
      refine WP.seq ?_
      refine WP.region ?_
      refine WL.valw (R.mv (v := (int p_none)) rfl) ?_
      refine WL.valw (R.as (v := (int p_none)) rfl) ?_
      refine WL.nil ?_
      obtain rfl := Option.some.inj h
      refine WP.ret (Out.one rfl S rfl ?_)
      exact rfl
    · refine WP.condF rfl hc7 ?_
      refine WP.skip ?_
      refine WP.seq ?_
      refine WP.region ?_
      refine WL.valw (R.mv (v := (str r1.1)) rfl) ?_
      obtain ⟨r8, hr8, h⟩ := bindE h
      refine W.call S rfl (ref19_argument_ok S.holds r1.1 hr8) ?_
      rintro v9 w10 H11 hle12 S rfl
      have Rp_m := Sl.mono Rp_m hle12
      refine WL.valw (R.mv (v := (.tuple ⟨[(str r8.1), (boo r8.2)]⟩)) rfl) ?_
      refine WL.valw (R.ext rfl rfl) ?_
      refine WL.valw (R.ext rfl rfl) ?_
      refine WL.valw (R.as (v := (str r8.1)) rfl) ?_
      refine WL.valw (R.as (v := (boo r8.2)) rfl) ?_
      refine WL.nil ?_
      refine WP.seq ?_
      refine WP.region ?_
      refine WL.valw (R.mv (v := (str r8.1)) rfl) ?_
      obtain ⟨r13, hr13, h⟩ := bindE h
      refine W.call S rfl (ref01_Number_ok S.holds r8.1 hr13) ?_
      rintro v14 w15 H16 hle17 S rfl
      have Rp_m := Sl.mono Rp_m hle17
      refine WL.valw (R.mv (v := (.tuple ⟨[(int r13.1), (boo r13.2)]⟩)) rfl) ?_
      refine WL.valw (R.ext rfl rfl) ?_
      refine WL.valw (R.ext rfl rfl) ?_
      refine WL.valw (R.as (v := (int r13.1)) rfl) ?_
      refine WL.valw (R.as (v := (boo r13.2)) rfl) ?_
      refine WL.nil ?_
      refine WP.seq ?_
      refine WP.seq ?_
      refine WP.region ?_
      refine WL.valw (R.mv (v := (boo r8.2)) rfl) ?_
      refine WL.valw (R.not rfl) ?_
      refine WL.valw (R.mv (v := (boo (!r8.2))) rfl) ?_
      refine WL.grp 3 [38, 39] 40 (boo ((!r8.2) || (!r13.2))) ?_ ?_
      · rcases boolE (!r8.2) with hb18 | hb18
        · refine WL.gno rfl rfl hb18 ?_
          refine WL.gno rfl rfl hb18 ?_
          refine WL.valw (R.pickT rfl hb18 rfl) ?_
          exact WL.nil ⟨(orT hb18), (by repeat (first | refine agree_upd rfl ?_ | refine agree_upds' rfl ?_ | exact agree_refl)), rfl⟩
        · refine WL.gyes rfl rfl hb18 ?_
          refine WL.valw (R.mv (v := (boo r13.2)) rfl) ?_
          refine WL.gyes rfl rfl hb18 ?_
          refine WL.valw (R.not rfl) ?_
          refine WL.valw (R.pickF rfl hb18 rfl) ?_
          exact WL.nil ⟨(orF hb18), (by repeat (first | refine agree_upd rfl ?_ | refine agree_upds' rfl ?_ | exact agree_refl)), rfl⟩
      · intro us
        refine WL.nil ?_
        rcases condE h with ⟨hc20, h⟩ | ⟨hc20, h⟩
        · refine WP.condT rfl hc20 ?_
          refine WP.seq ?_
          refine WP.region ?_
          refine WL.valw (R.mv (v := (int p_bad)) rfl) ?_
          refine WL.valw (R.as (v := (int p_bad)) rfl) ?_
          refine WL.nil ?_
          obtain rfl := Option.some.inj h
          refine WP.ret (Out.one rfl S rfl ?_)
          exact rfl
        · refine WP.condF rfl hc20 ?_
          refine WP.skip ?_
          refine WP.seq ?_
          refine WP.region ?_
          refine WL.valw (R.mv (v := (int r13.1)) rfl) ?_
          refine WL.valw (R.as (v := (int r13.1)) rfl) ?_
          refine WL.nil ?_
          obtain rfl := Option.some.inj h
          refine WP.ret (Out.one rfl S rfl ?_)
          exact rfl
set_option maxRecDepth 10000 in
set_option maxHeartbeats 4000000 in
theorem ref19_ResponseControl_ok {w0 : World} {H0 : Hp} (hw : Holds w0 H0) (p_ppend : (List GField)) {vp_ppend : Value} (Rp_ppend : Sl (α := GField) H0 vp_ppend p_ppend) {r : GControl} (h : ref19_ResponseControl p_ppend = some r) :
    Con Tryz.prog 23 [vp_ppend] w0 H0 (fun H' v => v = (agg [(boo r.fNoStore), (boo r.fNoCache), (boo r.fMustRevalidate), (boo r.fProxyRevalidate), (boo r.fPrivate), (boo r.fPublic), (boo r.fOnlyIfCached), (int r.fMaxAge), (int r.fSMaxAge), (int r.fMinFresh), (int r.fMaxStale)])) := by
  refine Con.mk (N := 70) Tryz.func23 rfl rfl (by kernel_rfl) rfl ?_
  have S := St.start hw
  refine WP.seq ?_
  refine WP.region ?_
  refine W.alloc [(boo false), (boo false), (boo false), (boo false), (boo false), (boo false), (boo false), (int 0), (int 0), (int 0), (int 0)] S zer36 ?_
  intro b1 w2 S
  refine WL.nil ?_
  refine WP.seq ?_
  refine WP.region ?_
  refine WL.valw (R.mv (v := vp_ppend) rfl) ?_
  obtain ⟨r3, hr3, h⟩ := bindE h
  refine W.call S rfl (ref01_All_ok S.holds p_ppend [67, 97, 99, 104, 101, 45, 67, 111, 110, 116, 114, 111, 108] Rp_ppend hr3) ?_
  rintro v4 w5 H6 hle7 S R8
  have Rp_ppend := Sl.mono Rp_ppend hle7
  refine WL.valw (R.as (v := v4) rfl) ?_
  refine WL.nil ?_
  refine WP.seq ?_
  refine WP.region ?_
  refine W.alloc [(boo false), (boo false), (boo false), (boo false), (boo false), (boo false), (boo false), (int 0), (int 0), (int 0), (int 0)] S zer36 ?_
  intro b9 w10 S
  refine WL.nil ?_
  refine WP.seq ?_
  refine WP.region ?_
  refine WL.valw (R.mv (v := v4) rfl) ?_
  obtain ⟨r11, hr11, h⟩ := bindE h
  refine W.call S rfl (ref19_directive_ok S.holds r3 [110, 111, 45, 115, 116, 111, 114, 101] R8 hr11) ?_
  rintro v12 w13 H14 hle15 S rfl
  have Rp_ppend := Sl.mono Rp_ppend hle15
  have R8 := Sl.mono R8 hle15
  refine WL.valw (R.mv (v := (.tuple ⟨[(str r11.1), (boo r11.2)]⟩)) rfl) ?_
  refine WL.valw (R.ext rfl rfl) ?_
  refine WL.valw (R.ext rfl rfl) ?_
  refine WL.valw (R.fieldB rfl fld36_0) ?_
  refine W.store (i := 0) [(boo r11.2), (boo false), (boo false), (boo false), (boo false), (boo false), (boo false), (int 0), (int 0), (int 0), (int 0)] S rfl rfl rfl lay4 rfl rfl (Nat.le_of_ble_eq_true rfl) rfl ?_
  intro w16 S
  refine WL.nil ?_
  refine WP.seq ?_
  refine WP.region ?_
  refine WL.valw (R.mv (v := v4) rfl) ?_
  obtain ⟨r17, hr17, h⟩ := bindE h
  refine W.call S rfl (ref19_directive_ok S.holds r3 [110, 111, 45, 99, 97, 99, 104, 101] R8 hr17) ?_
  rintro v18 w19 H20 hle21 S rfl
  have Rp_ppend := Sl.mono Rp_ppend hle21
  have R8 := Sl.mono R8 hle21
  refine WL.valw (R.mv (v := (.tuple ⟨[(str r17.1), (boo r17.2)]⟩)) rfl) ?_
  refine WL.valw (R.ext rfl rfl) ?_
  refine WL.valw (R.ext rfl rfl) ?_
  refine WL.valw (R.fieldB rfl fld36_1) ?_
  refine W.store (i := 0) [(boo r11.2), (boo r17.2), (boo false), (boo false), (boo false), (boo false), (boo false), (int 0), (int 0), (int 0), (int 0)] S rfl rfl rfl lay4 rfl rfl (Nat.le_of_ble_eq_true rfl) rfl ?_
  intro w22 S
  refine WL.nil ?_
  refine WP.seq ?_
  refine WP.region ?_
  refine WL.valw (R.mv (v := v4) rfl) ?_
  obtain ⟨r23, hr23, h⟩ := bindE h
  refine W.call S rfl (ref19_directive_ok S.holds r3 [109, 117, 115, 116, 45, 114, 101, 118, 97, 108, 105, 100, 97, 116, 101] R8 hr23) ?_
  rintro v24 w25 H26 hle27 S rfl
  have Rp_ppend := Sl.mono Rp_ppend hle27
  have R8 := Sl.mono R8 hle27
  refine WL.valw (R.mv (v := (.tuple ⟨[(str r23.1), (boo r23.2)]⟩)) rfl) ?_
  refine WL.valw (R.ext rfl rfl) ?_
  refine WL.valw (R.ext rfl rfl) ?_
  refine WL.valw (R.fieldB rfl fld36_2) ?_
  refine W.store (i := 0) [(boo r11.2), (boo r17.2), (boo r23.2), (boo false), (boo false), (boo false), (boo false), (int 0), (int 0), (int 0), (int 0)] S rfl rfl rfl lay4 rfl rfl (Nat.le_of_ble_eq_true rfl) rfl ?_
  intro w28 S
  refine WL.nil ?_
  refine WP.seq ?_
  refine WP.region ?_
  refine WL.valw (R.mv (v := v4) rfl) ?_
  obtain ⟨r29, hr29, h⟩ := bindE h
  refine W.call S rfl (ref19_directive_ok S.holds r3 [112, 114, 111, 120, 121, 45, 114, 101, 118, 97, 108, 105, 100, 97, 116, 101] R8 hr29) ?_
  rintro v30 w31 H32 hle33 S rfl
  have Rp_ppend := Sl.mono Rp_ppend hle33
  have R8 := Sl.mono R8 hle33
  refine WL.valw (R.mv (v := (.tuple ⟨[(str r29.1), (boo r29.2)]⟩)) rfl) ?_
  refine WL.valw (R.ext rfl rfl) ?_
  refine WL.valw (R.ext rfl rfl) ?_
  refine WL.valw (R.fieldB rfl fld36_3) ?_
  refine W.store (i := 0) [(boo r11.2), (boo r17.2), (boo r23.2), (boo r29.2), (boo false), (boo false), (boo false), (int 0), (int 0), (int 0), (int 0)] S rfl rfl rfl lay4 rfl rfl (Nat.le_of_ble_eq_true rfl) rfl ?_
  intro w34 S
  refine WL.nil ?_
  refine WP.seq ?_
  refine WP.region ?_
  refine WL.valw (R.mv (v := v4) rfl) ?_
  obtain ⟨r35, hr35, h⟩ := bindE h
  refine W.call S rfl (ref19_directive_ok S.holds r3 [112, 114, 105, 118, 97, 116, 101] R8 hr35) ?_
  rintro v36 w37 H38 hle39 S rfl
  have Rp_ppend := Sl.mono Rp_ppend hle39
  have R8 := Sl.mono R8 hle39
  refine WL.valw (R.mv (v := (.tuple ⟨[(str r35.1), (boo r35.2)]⟩)) rfl) ?_
  refine WL.valw (R.ext rfl rfl) ?_
  refine WL.valw (R.ext rfl rfl) ?_
  refine WL.valw (R.fieldB rfl fld36_4) ?_
  refine W.store (i := 0) [(boo r11.2), (boo r17.2), (boo r23.2), (boo r29.2), (boo r35.2), (boo false), (boo false), (int 0), (int 0), (int 0), (int 0)] S rfl rfl rfl lay4 rfl rfl (Nat.le_of_ble_eq_true rfl) rfl ?_
  intro w40 S
  refine WL.nil ?_
  refine WP.seq ?_
  refine WP.region ?_
  refine WL.valw (R.mv (v := v4) rfl) ?_
  obtain ⟨r41, hr41, h⟩ := bindE h
  refine W.call S rfl (ref19_directive_ok S.holds r3 [112, 117, 98, 108, 105, 99] R8 hr41) ?_
  rintro v42 w43 H44 hle45 S rfl
  have Rp_ppend := Sl.mono Rp_ppend hle45
  have R8 := Sl.mono R8 hle45
  refine WL.valw (R.mv (v := (.tuple ⟨[(str r41.1), (boo r41.2)]⟩)) rfl) ?_
  refine WL.valw (R.ext rfl rfl) ?_
  refine WL.valw (R.ext rfl rfl) ?_
  refine WL.valw (R.fieldB rfl fld36_5) ?_
  refine W.store (i := 0) [(boo r11.2), (boo r17.2), (boo r23.2), (boo r29.2), (boo r35.2), (boo r41.2), (boo false), (int 0), (int 0), (int 0), (int 0)] S rfl rfl rfl lay4 rfl rfl (Nat.le_of_ble_eq_true rfl) rfl ?_
  intro w46 S
  refine WL.nil ?_
  refine WP.seq ?_
  refine WP.region ?_
  refine WL.valw (R.mv (v := v4) rfl) ?_
  obtain ⟨r47, hr47, h⟩ := bindE h
  refine W.call S rfl (ref19_directive_ok S.holds r3 [111, 110, 108, 121, 45, 105, 102, 45, 99, 97, 99, 104, 101, 100] R8 hr47) ?_
  rintro v48 w49 H50 hle51 S rfl
  have Rp_ppend := Sl.mono Rp_ppend hle51
  have R8 := Sl.mono R8 hle51
  refine WL.valw (R.mv (v := (.tuple ⟨[(str r47.1), (boo r47.2)]⟩)) rfl) ?_
  refine WL.valw (R.ext rfl rfl) ?_
  refine WL.valw (R.ext rfl rfl) ?_
  refine WL.valw (R.fieldB rfl fld36_6) ?_
  refine W.store (i := 0) [(boo r11.2), (boo r17.2), (boo r23.2), (boo r29.2), (boo r35.2), (boo r41.2), (boo r47.2), (int 0), (int 0), (int 0), (int 0)] S rfl rfl rfl lay4 rfl rfl (Nat.le_of_ble_eq_true rfl) rfl ?_
  intro w52 S
  refine WL.nil ?_
  refine WP.seq ?_
  refine WP.region ?_
  refine WL.valw (R.mv (v := v4) rfl) ?_
  obtain ⟨r53, hr53, h⟩ := bindE h
  refine W.call S rfl (ref19_seconds_ok S.holds r3 [109, 97, 120, 45, 97, 103, 101] 0 0 R8 hr53) ?_
  rintro v54 w55 H56 hle57 S rfl
  have Rp_ppend := Sl.mono Rp_ppend hle57
  have R8 := Sl.mono R8 hle57
  refine WL.valw (R.fieldB rfl fld36_7) ?_
  refine W.store (i := 0) [(boo r11.2), (boo r17.2), (boo r23.2), (boo r29.2), (boo r35.2), (boo r41.2), (boo r47.2), (int r53), (int 0), (int 0), (int 0)] S rfl rfl rfl lay3 rfl rfl (Nat.le_of_ble_eq_true rfl) rfl ?_
  intro w58 S
  refine WL.nil ?_
  refine WP.seq ?_
  refine WP.region ?_
  refine WL.valw (R.mv (v := v4) rfl) ?_
  obtain ⟨r59, hr59, h⟩ := bindE h
  refine W.call S rfl (ref19_seconds_ok S.holds r3 [115, 45, 109, 97, 120, 97, 103, 101] 0 0 R8 hr59) ?_
  rintro v60 w61 H62 hle63 S rfl
  have Rp_ppend := Sl.mono Rp_ppend hle63
  have R8 := Sl.mono R8 hle63
  refine WL.valw (R.fieldB rfl fld36_8) ?_
  refine W.store (i := 0) [(boo r11.2), (boo r17.2), (boo r23.2), (boo r29.2), (boo r35.2), (boo r41.2), (boo r47.2), (int r53), (int r59), (int 0), (int 0)] S rfl rfl rfl lay3 rfl rfl (Nat.le_of_ble_eq_true rfl) rfl ?_
  intro w64 S
  refine WL.nil ?_
  refine WP.seq ?_
  refine WP.region ?_
  refine WL.valw (R.mv (v := v4) rfl) ?_
  obtain ⟨r65, hr65, h⟩ := bindE h
  refine W.call S rfl (ref19_seconds_ok S.holds r3 [109, 105, 110, 45, 102, 114, 101, 115, 104] 2147483647 2147483647 R8 hr65) ?_
  rintro v66 w67 H68 hle69 S rfl
  have Rp_ppend := Sl.mono Rp_ppend hle69
  have R8 := Sl.mono R8 hle69
  refine WL.valw (R.fieldB rfl fld36_9) ?_
  refine W.store (i := 0) [(boo r11.2), (boo r17.2), (boo r23.2), (boo r29.2), (boo r35.2), (boo r41.2), (boo r47.2), (int r53), (int r59), (int r65), (int 0)] S rfl rfl rfl lay3 rfl rfl (Nat.le_of_ble_eq_true rfl) rfl ?_
  intro w70 S
  refine WL.nil ?_
  refine WP.seq ?_
  refine WP.region ?_
  refine WL.valw (R.mv (v := v4) rfl) ?_
  obtain ⟨r71, hr71, h⟩ := bindE h
  refine W.call S rfl (ref19_seconds_ok S.holds r3 [109, 97, 120, 45, 115, 116, 97, 108, 101] 2147483647 0 R8 hr71) ?_
  rintro v72 w73 H74 hle75 S rfl
  have Rp_ppend := Sl.mono Rp_ppend hle75
  have R8 := Sl.mono R8 hle75
  refine WL.valw (R.fieldB rfl fld36_10) ?_
  refine W.store (i := 0) [(boo r11.2), (boo r17.2), (boo r23.2), (boo r29.2), (boo r35.2), (boo r41.2), (boo r47.2), (int r53), (int r59), (int r65), (int r71)] S rfl rfl rfl lay3 rfl rfl (Nat.le_of_ble_eq_true rfl) rfl ?_
  intro w76 S
  refine WL.nil ?_
  refine WP.seq ?_
  refine WP.region ?_
  refine WL.valw (R.fieldB rfl fld36_0) ?_
  refine WL.valw (R.loadB (i := 0) (v := (boo r11.2)) S rfl rfl lay4 rfl) ?_
  refine WL.valw (R.mv (v := (boo r11.2)) rfl) ?_
  refine WL.grp 4 [64, 65, 66] 67 (boo (r11.2 || (decide (64 ≤ (r3.length : Int))))) ?_ ?_
  · rcases boolE r11.2 with hb77 | hb77
    · refine WL.gno rfl rfl hb77 ?_
      refine WL.gno rfl rfl hb77 ?_
      refine WL.gno rfl rfl hb77 ?_
      refine WL.valw (R.pickT rfl hb77 rfl) ?_
      exact WL.nil ⟨(orT hb77), (by repeat (first | refine agree_upd rfl ?_ | refine agree_upds' rfl ?_ | exact agree_refl)), rfl⟩
    · refine WL.gyes rfl rfl hb77 ?_
      refine WL.valw (R.mv (v := v4) rfl) ?_
      refine WL.gyes rfl rfl hb77 ?_
      refine WL.valw (R.lenL (α := Str) (xs := r3) (H := H74) R8 rfl Tryz.underlying38) ?_
      refine WL.gyes rfl rfl hb77 ?_
      refine WL.valw (R.geq rfl rfl) ?_
      refine WL.valw (R.pickF rfl hb77 rfl) ?_
      exact WL.nil ⟨(orF hb77), (by repeat (first | refine agree_upd rfl ?_ | refine agree_upds' rfl ?_ | exact agree_refl)), rfl⟩
  · intro us
    refine WL.valw (R.fieldB rfl fld36_0) ?_
    refine W.store (i := 0) [(boo (r11.2 || (decide (64 ≤ (r3.length : Int))))), (boo r17.2), (boo r23.2), (boo r29.2), (boo r35.2), (boo r41.2), (boo r47.2), (int r53), (int r59), (int r65), (int r71)] S rfl rfl rfl lay4 rfl rfl (Nat.le_of_ble_eq_true rfl) rfl ?_
    intro w79 S
    refine WL.nil ?_
    refine WP.seq ?_
    refine WP.region ?_
    refine WL.valw (R.loadBN (i := 0) (vs := [(boo (r11.2 || (decide (64 ≤ (r3.length : Int))))), (boo r17.2), (boo r23.2), (boo r29.2), (boo r35.2), (boo r41.2), (boo r47.2), (int r53), (int r59), (int r65), (int r71)]) S rfl rfl lay36 rfl rfl) ?_
    refine W.store (i := 1) [(boo (r11.2 || (decide (64 ≤ (r3.length : Int))))), (boo r17.2), (boo r23.2), (boo r29.2), (boo r35.2), (boo r41.2), (boo r47.2), (int r53), (int r59), (int r65), (int r71)] S rfl rfl rfl lay36 rfl rfl (Nat.le_of_ble_eq_true rfl) rfl ?_
    intro w80 S
    refine WL.nil ?_
    obtain rfl := Option.some.inj h
    refine WP.ret (Out.one rfl S (Res.cellB (i := 1) (cs := [(boo (r11.2 || (decide (64 ≤ (r3.length : Int))))), (boo r17.2), (boo r23.2), (boo r29.2), (boo r35.2), (boo r41.2), (boo r47.2), (int r53), (int r59), (int r65), (int r71)]) S rfl rfl lay36 rfl rfl) ?_)
    exact rfl
end Go.Proofs
