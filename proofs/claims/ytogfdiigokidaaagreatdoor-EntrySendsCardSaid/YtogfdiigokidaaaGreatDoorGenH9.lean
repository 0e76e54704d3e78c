/- A part of the proof of laws of the seat: written by program over the translation. -/
import Derived.Test.YtogfdiigokidaaaGreatDoorGenH8
namespace Go.Proofs
open Go.Eng Go.Eng.Pure
set_option linter.unusedVariables false
set_option maxRecDepth 10000 in
set_option maxHeartbeats 4000000 in
theorem ref01_Index_ok {w0 : World} {H0 : Hp} (hw : Holds w0 H0) (hG : Tryz.Gl w0) (p_s : Str) (p_c : UInt8) (p_from : Int) {r : Int} (h : ref01_Index p_s p_c p_from = some r) :
    Con Tryz.prog 98 [(str p_s), (byt p_c), (int p_from)] w0 H0 (fun H' v => v = (int r)) := by
  refine Con.mk (N := 21) Tryz.func98 rfl rfl (by kernel_rfl) rfl ?_
  have S := St.start hw
  refine WP.seq ?_
  refine WP.region ?_
  refine WL.valw (R.as (v := (int 0)) rfl) ?_
  refine WL.nil ?_
  refine WP.seq ?_
  refine WP.seq ?_
  refine WP.region ?_
  refine WL.valw (R.mv (v := (int p_from)) rfl) ?_
  refine WL.valw (R.as (v := (int p_from)) rfl) ?_
  refine WL.nil ?_
  obtain ⟨r10, hr11, h⟩ := bindE h
  refine WP.cut (fun f w => match r10 with | .inl _ => ∃ (H6 : Hp), St w0 H0 w H6 [] | .inr _ => False) ?_ ?_
  · refine WP.block ?_
    refine WP.loopM (ref01_Index_L0 p_s p_c) (fun s f w => match s with | i_4 => ∃ (H1 : Hp), f 0 = (str p_s) ∧ f 1 = (byt p_c) ∧ f 7 = (int i_4) ∧ St w0 H0 w H1 []) p_from r10 hr11 ?_ ?_
    · exact ⟨H0, rfl, rfl, rfl, S⟩
    · intro i_4 f w hI y7 hy8 hy9
      obtain ⟨H1, h2, h3, h5, S⟩ := hI
      refine WP.seq ?_
      refine WP.seq ?_
      refine WP.region ?_
      refine WL.valw (R.mv (v := (int i_4)) h5) ?_
      refine WL.valw (R.mv (v := (str p_s)) h2) ?_
      refine WL.valw (R.lenS (a := p_s) rfl Tryz.underlying9) ?_
      refine WL.valw (R.lss rfl rfl) ?_
      refine WL.nil ?_
      rcases condE hy8 with ⟨hc12, hy8⟩ | ⟨hc12, hy8⟩
      · refine WP.condT rfl hc12 ?_
        refine WP.skip ?_
        refine WP.seq ?_
        refine WP.block ?_
        refine WP.seq ?_
        refine WP.region ?_
        refine WL.valw (R.mv (v := (str p_s)) h2) ?_
        refine WL.valw (R.mv (v := (int i_4)) h5) ?_
        obtain ⟨c13, hc13, hy8⟩ := bindE hy8
        refine WL.valw (R.idxS rfl rfl Tryz.underlying9 hc13) ?_
        refine WL.valw (R.mv (v := (byt p_c)) h3) ?_
        refine WL.valw (R.eql8 (a := c13) (b := p_c) rfl rfl) ?_
        refine WL.nil ?_
        rcases condE hy8 with ⟨hc14, hy8⟩ | ⟨hc14, hy8⟩
        · refine WP.condT rfl hc14 ?_
          refine WP.seq ?_
          refine WP.region ?_
          refine WL.valw (R.mv (v := (int i_4)) h5) ?_
          refine WL.valw (R.as (v := (int i_4)) rfl) ?_
          refine WL.nil ?_
          obtain rfl := Option.some.inj hy8
          obtain rfl := hy9
          obtain rfl := Option.some.inj h
          refine WP.ret (Out.one rfl S rfl ?_)
          exact rfl
        · refine WP.condF rfl hc14 ?_
          refine WP.skip ?_
          refine WP.region ?_
          refine WL.valw (R.mv (v := (int i_4)) h5) ?_
          refine WL.valw (R.add rfl rfl) ?_
          refine WL.valw (R.as (v := (int (wr (i_4 + 1)))) rfl) ?_
          refine WL.nil ?_
          obtain rfl := Option.some.inj hy8
          exact ⟨rfl, ⟨H1, h2, h3, rfl, S⟩⟩
      · refine WP.condF rfl hc12 ?_
        refine WP.exit ?_
        obtain rfl := Option.some.inj hy8
        obtain rfl := hy9
        exact ⟨H1, S⟩
  · intro f w hM
    rcases r10 with _ | e
    · obtain ⟨H6, S⟩ := hM
      refine WP.seq ?_
      refine WP.region ?_
      refine WL.valw (R.as (v := (int (-1))) rfl) ?_
      refine WL.nil ?_
      obtain rfl := Option.some.inj h
      refine WP.ret (Out.one rfl S rfl ?_)
      exact rfl
    · exact hM.elim
set_option maxRecDepth 10000 in
set_option maxHeartbeats 4000000 in
theorem ref01_Visible_ok {w0 : World} {H0 : Hp} (hw : Holds w0 H0) (hG : Tryz.Gl w0) (p_s : Str) {r : Bool} (h : ref01_Visible p_s = some r) :
    Con Tryz.prog 123 [(str p_s)] w0 H0 (fun H' v => v = (boo r)) := by
  refine Con.mk (N := 22) Tryz.func123 rfl rfl (by kernel_rfl) rfl ?_
  have S := St.start hw
  refine WP.seq ?_
  refine WP.region ?_
  refine WL.valw (R.as (v := (boo false)) rfl) ?_
  refine WL.nil ?_
  refine WP.seq ?_
  refine WP.seq ?_
  refine WP.region ?_
  refine WL.valw (R.as (v := (int 0)) rfl) ?_
  refine WL.nil ?_
  obtain ⟨r10, hr11, h⟩ := bindE h
  refine WP.cut (fun f w => match r10 with | .inl _ => ∃ (H5 : Hp), f 0 = (str p_s) ∧ St w0 H0 w H5 [] | .inr _ => False) ?_ ?_
  · refine WP.block ?_
    refine WP.loopM (ref01_Visible_L0 p_s) (fun s f w => match s with | i_3 => ∃ (H1 : Hp), f 0 = (str p_s) ∧ f 3 = (int i_3) ∧ St w0 H0 w H1 []) 0 r10 hr11 ?_ ?_
    · exact ⟨H0, rfl, rfl, S⟩
    · intro i_3 f w hI y7 hy8 hy9
      obtain ⟨H1, h2, h4, S⟩ := hI
      refine WP.seq ?_
      refine WP.seq ?_
      refine WP.region ?_
      refine WL.valw (R.mv (v := (int i_3)) h4) ?_
      refine WL.valw (R.mv (v := (str p_s)) h2) ?_
      refine WL.valw (R.lenS (a := p_s) rfl Tryz.underlying9) ?_
      refine WL.valw (R.lss rfl rfl) ?_
      refine WL.nil ?_
      rcases condE hy8 with ⟨hc12, hy8⟩ | ⟨hc12, hy8⟩
      · refine WP.condT rfl hc12 ?_
        refine WP.skip ?_
        refine WP.seq ?_
        refine WP.block ?_
        refine WP.seq ?_
        refine WP.region ?_
        refine WL.valw (R.mv (v := (str p_s)) h2) ?_
        refine WL.valw (R.mv (v := (int i_3)) h4) ?_
        obtain ⟨c13, hc13, hy8⟩ := bindE hy8
        refine WL.valw (R.idxS rfl rfl Tryz.underlying9 hc13) ?_
        refine WL.valw (R.lss8 (a := c13) (b := 33) rfl rfl) ?_
        refine WL.valw (R.mv (v := (boo (decide (c13 < 33)))) rfl) ?_
        obtain ⟨b17, hg15, hy8⟩ := bindE hy8
        refine WL.grp 5 [15, 16, 17, 18] 19 (boo b17) ?_ ?_
        · rcases boolE (decide (c13 < 33)) with hb14 | hb14
          · replace hg15 := condT hg15 hb14
            refine WL.gno rfl rfl hb14 ?_
            refine WL.gno rfl rfl hb14 ?_
            refine WL.gno rfl rfl hb14 ?_
            refine WL.gno rfl rfl hb14 ?_
            refine WL.valw (R.pickT rfl hb14 rfl) ?_
            exact WL.nil ⟨(congrArg boo (Option.some.inj hg15)), (by repeat (first | refine agree_upd rfl ?_ | refine agree_upds' rfl ?_ | exact agree_refl)), rfl⟩
          · replace hg15 := condF hg15 hb14
            refine WL.gyes rfl rfl hb14 ?_
            refine WL.valw (R.mv (v := (str p_s)) h2) ?_
            refine WL.gyes rfl rfl hb14 ?_
            refine WL.valw (R.mv (v := (int i_3)) h4) ?_
            refine WL.gyes rfl rfl hb14 ?_
            obtain ⟨c16, hc16, hg15⟩ := bindE hg15
            refine WL.valw (R.idxS rfl rfl Tryz.underlying9 hc16) ?_
            refine WL.gyes rfl rfl hb14 ?_
            refine WL.valw (R.gtr8 (a := c16) (b := 126) rfl rfl) ?_
            refine WL.valw (R.pickF rfl hb14 rfl) ?_
            exact WL.nil ⟨(congrArg boo (Option.some.inj hg15)), (by repeat (first | refine agree_upd rfl ?_ | refine agree_upds' rfl ?_ | exact agree_refl)), rfl⟩
        · intro us
          refine WL.nil ?_
          rcases condE hy8 with ⟨hc18, hy8⟩ | ⟨hc18, hy8⟩
          · refine WP.condT rfl hc18 ?_
            refine WP.seq ?_
            refine WP.region ?_
            refine WL.valw (R.as (v := (boo false)) rfl) ?_
            refine WL.nil ?_
            obtain rfl := Option.some.inj hy8
            obtain rfl := hy9
            obtain rfl := Option.some.inj h
            refine WP.ret (Out.one rfl S rfl ?_)
            exact rfl
          · refine WP.condF rfl hc18 ?_
            refine WP.skip ?_
            refine WP.region ?_
            refine WL.valw (R.mv (v := (int i_3)) h4) ?_
            refine WL.valw (R.add rfl rfl) ?_
            refine WL.valw (R.as (v := (int (wr (i_3 + 1)))) rfl) ?_
            refine WL.nil ?_
            obtain rfl := Option.some.inj hy8
            exact ⟨rfl, ⟨H1, h2, rfl, S⟩⟩
      · refine WP.condF rfl hc12 ?_
        refine WP.exit ?_
        obtain rfl := Option.some.inj hy8
        obtain rfl := hy9
        exact ⟨H1, h2, S⟩
  · intro f w hM
    rcases r10 with _ | e
    · obtain ⟨H5, h6, S⟩ := hM
      refine WP.seq ?_
      refine WP.region ?_
      refine WL.valw (R.mv (v := (str p_s)) h6) ?_
      refine WL.valw (R.neqS (a := p_s) (b := []) rfl rfl) ?_
      refine WL.valw (R.as (v := (boo (p_s != []))) rfl) ?_
      refine WL.nil ?_
      obtain rfl := Option.some.inj h
      refine WP.ret (Out.one rfl S rfl ?_)
      exact rfl
    · exact hM.elim
set_option maxRecDepth 10000 in
set_option maxHeartbeats 4000000 in
theorem ref01_ParseRequestLine_ok {w0 : World} {H0 : Hp} (hw : Holds w0 H0) (hG : Tryz.Gl w0) (p_line : Str) {r : (Str × Str × Int × Int)} (h : ref01_ParseRequestLine p_line = some r) :
    Con Tryz.prog 74 [(str p_line)] w0 H0 (fun H' v => v = (.tuple ⟨[(str r.1), (str r.2.1), (int r.2.2.1), (int r.2.2.2)]⟩)) := by
  refine Con.mk (N := 59) Tryz.func74 rfl rfl (by kernel_rfl) rfl ?_
  have S := St.start hw
  refine WP.seq ?_
  refine WP.region ?_
  refine WL.valw (R.as (v := (str [])) rfl) ?_
  refine WL.valw (R.as (v := (str [])) rfl) ?_
  refine WL.valw (R.as (v := (int 0)) rfl) ?_
  refine WL.valw (R.as (v := (int 0)) rfl) ?_
  refine WL.nil ?_
  refine WP.seq ?_
  refine WP.seq ?_
  refine WP.region ?_
  refine WL.valw (R.mv (v := (str p_line)) rfl) ?_
  refine WL.valw (R.lenS (a := p_line) rfl Tryz.underlying9) ?_
  refine WL.valw (R.gtr rfl rfl) ?_
  refine WL.nil ?_
  rcases condE h with ⟨hc1, h⟩ | ⟨hc1, h⟩
  · refine WP.condT rfl hc1 ?_
    refine WP.seq ?_
    refine WP.region ?_
    refine WL.valw (R.as (v := (str [])) rfl) ?_
    refine WL.valw (R.as (v := (str [])) rfl) ?_
    refine WL.valw (R.as (v := (int 0)) rfl) ?_
    refine WL.valw (R.as (v := (int 4)) rfl) ?_
    refine WL.nil ?_
    obtain rfl := Option.some.inj h
    refine WP.ret (Out.four rfl S rfl rfl rfl rfl ?_)
    exact rfl
  · refine WP.condF rfl hc1 ?_
    refine WP.skip ?_
    refine WP.seq ?_
    refine WP.region ?_
    refine WL.valw (R.mv (v := (str p_line)) rfl) ?_
    obtain ⟨r2, hr2, h⟩ := bindE h
    refine W.call S rfl (ref01_Index_ok S.holds (hG.post S.post) p_line 32 0 hr2) ?_
    rintro v3 w4 H5 hle6 S rfl
    refine WL.valw (R.as (v := (int r2)) rfl) ?_
    refine WL.nil ?_
    refine WP.seq ?_
    refine WP.seq ?_
    refine WP.region ?_
    refine WL.valw (R.mv (v := (int r2)) rfl) ?_
    refine WL.valw (R.lss rfl rfl) ?_
    refine WL.nil ?_
    rcases condE h with ⟨hc7, h⟩ | ⟨hc7, h⟩
    · refine WP.condT rfl hc7 ?_
      refine WP.seq ?_
      refine WP.region ?_
      refine WL.valw (R.as (v := (str [])) rfl) ?_
      refine WL.valw (R.as (v := (str [])) rfl) ?_
      refine WL.valw (R.as (v := (int 0)) rfl) ?_
      refine WL.valw (R.as (v := (int 1)) rfl) ?_
      refine WL.nil ?_
      obtain rfl := Option.some.inj h
      refine WP.ret (Out.four rfl S rfl rfl rfl rfl ?_)
      exact rfl
    · refine WP.condF rfl hc7 ?_
      refine WP.skip ?_
      refine WP.seq ?_
      refine WP.region ?_
      refine WL.valw (R.mv (v := (str p_line)) rfl) ?_
      refine WL.valw (R.mv (v := (int r2)) rfl) ?_
      refine WL.valw (R.add rfl rfl) ?_
      obtain ⟨r8, hr8, h⟩ := bindE h
      refine W.call S rfl (ref01_Index_ok S.holds (hG.post S.post) p_line 32 (wr (r2 + 1)) hr8) ?_
      rintro v9 w10 H11 hle12 S rfl
      refine WL.valw (R.as (v := (int r8)) rfl) ?_
      refine WL.nil ?_
      refine WP.seq ?_
      refine WP.seq ?_
      refine WP.region ?_
      refine WL.valw (R.mv (v := (int r8)) rfl) ?_
      refine WL.valw (R.lss rfl rfl) ?_
      refine WL.valw (R.mv (v := (boo (decide (r8 < 0)))) rfl) ?_
      obtain ⟨b21, hg14, h⟩ := bindE h
      refine WL.grpw 6 [24, 25, 26, 27, 28] 29 (boo b21) (fun w => ∃ H' : Hp, H11.le H' ∧ St w0 H0 w H' []) ?_ ?_
      · rcases boolE (decide (r8 < 0)) with hb13 | hb13
        · replace hg14 := condT hg14 hb13
          refine WL.gno rfl rfl hb13 ?_
          refine WL.gno rfl rfl hb13 ?_
          refine WL.gno rfl rfl hb13 ?_
          refine WL.gno rfl rfl hb13 ?_
          refine WL.gno rfl rfl hb13 ?_
          refine WL.valw (R.pickT rfl hb13 rfl) ?_
          exact WL.nil ⟨(congrArg boo (Option.some.inj hg14)), (by repeat (first | refine agree_upd rfl ?_ | refine agree_upds' rfl ?_ | exact agree_refl)), ⟨H11, (Hp.le.refl _), S⟩⟩
        · replace hg14 := condF hg14 hb13
          refine WL.gyes rfl rfl hb13 ?_
          refine WL.valw (R.mv (v := (str p_line)) rfl) ?_
          refine WL.gyes rfl rfl hb13 ?_
          refine WL.valw (R.mv (v := (int r2)) rfl) ?_
          refine WL.gyes rfl rfl hb13 ?_
          obtain ⟨s15, hs15, hg14⟩ := bindE hg14
          refine WL.valw (R.subShi rfl rfl Tryz.underlying9 hs15) ?_
          refine WL.gyes rfl rfl hb13 ?_
          obtain ⟨r16, hr16, hg14⟩ := bindE hg14
          refine W.call S rfl (ref01_Token_ok S.holds (hG.post S.post) s15 hr16) ?_
          rintro v17 w18 H19 hle20 S rfl
          refine WL.gyes rfl rfl hb13 ?_
          refine WL.valw (R.not rfl) ?_
          refine WL.valw (R.pickF rfl hb13 rfl) ?_
          exact WL.nil ⟨(congrArg boo (Option.some.inj hg14)), (by repeat (first | refine agree_upd rfl ?_ | refine agree_upds' rfl ?_ | exact agree_refl)), ⟨H19, hle20, S⟩⟩
      · intro us w23 ⟨H22, hle24, S⟩
        refine WL.valw (R.mv (v := (boo b21)) rfl) ?_
        obtain ⟨b33, hg26, h⟩ := bindE h
        refine WL.grpw 8 [31, 32, 33, 34, 35, 36, 37] 38 (boo b33) (fun w => ∃ H' : Hp, H22.le H' ∧ St w0 H0 w H' []) ?_ ?_
        · rcases boolE b21 with hb25 | hb25
          · replace hg26 := condT hg26 hb25
            refine WL.gno rfl rfl hb25 ?_
            refine WL.gno rfl rfl hb25 ?_
            refine WL.gno rfl rfl hb25 ?_
            refine WL.gno rfl rfl hb25 ?_
            refine WL.gno rfl rfl hb25 ?_
            refine WL.gno rfl rfl hb25 ?_
            refine WL.gno rfl rfl hb25 ?_
            refine WL.valw (R.pickT rfl hb25 rfl) ?_
            exact WL.nil ⟨(congrArg boo (Option.some.inj hg26)), (by repeat (first | refine agree_upd rfl ?_ | refine agree_upds' rfl ?_ | exact agree_refl)), ⟨H22, (Hp.le.refl _), S⟩⟩
          · replace hg26 := condF hg26 hb25
            refine WL.gyes rfl rfl hb25 ?_
            refine WL.valw (R.mv (v := (str p_line)) rfl) ?_
            refine WL.gyes rfl rfl hb25 ?_
            refine WL.valw (R.mv (v := (int r2)) rfl) ?_
            refine WL.gyes rfl rfl hb25 ?_
            refine WL.valw (R.add rfl rfl) ?_
            refine WL.gyes rfl rfl hb25 ?_
            refine WL.valw (R.mv (v := (int r8)) rfl) ?_
            refine WL.gyes rfl rfl hb25 ?_
            obtain ⟨s27, hs27, hg26⟩ := bindE hg26
            refine WL.valw (R.subS rfl rfl rfl Tryz.underlying9 hs27) ?_
            refine WL.gyes rfl rfl hb25 ?_
            obtain ⟨r28, hr28, hg26⟩ := bindE hg26
            refine W.call S rfl (ref01_Visible_ok S.holds (hG.post S.post) s27 hr28) ?_
            rintro v29 w30 H31 hle32 S rfl
            refine WL.gyes rfl rfl hb25 ?_
            refine WL.valw (R.not rfl) ?_
            refine WL.valw (R.pickF rfl hb25 rfl) ?_
            exact WL.nil ⟨(congrArg boo (Option.some.inj hg26)), (by repeat (first | refine agree_upd rfl ?_ | refine agree_upds' rfl ?_ | exact agree_refl)), ⟨H31, hle32, S⟩⟩
        · intro us w35 ⟨H34, hle36, S⟩
          refine WL.nil ?_
          rcases condE h with ⟨hc37, h⟩ | ⟨hc37, h⟩
          · refine WP.condT rfl hc37 ?_
            refine WP.seq ?_
            refine WP.region ?_
            refine WL.valw (R.as (v := (str [])) rfl) ?_
            refine WL.valw (R.as (v := (str [])) rfl) ?_
            refine WL.valw (R.as (v := (int 0)) rfl) ?_
            refine WL.valw (R.as (v := (int 1)) rfl) ?_
            refine WL.nil ?_
            obtain rfl := Option.some.inj h
            refine WP.ret (Out.four rfl S rfl rfl rfl rfl ?_)
            exact rfl
          · refine WP.condF rfl hc37 ?_
            refine WP.skip ?_
            refine WP.seq ?_
            refine WP.region ?_
            refine WL.valw (R.mv (v := (str p_line)) rfl) ?_
            refine WL.valw (R.mv (v := (int r8)) rfl) ?_
            refine WL.valw (R.add rfl rfl) ?_
            obtain ⟨s38, hs38, h⟩ := bindE h
            refine WL.valw (R.subSlo rfl rfl Tryz.underlying9 hs38) ?_
            obtain ⟨r39, hr39, h⟩ := bindE h
            refine W.call S rfl (ref01_version_ok S.holds (hG.post S.post) s38 hr39) ?_
            rintro v40 w41 H42 hle43 S rfl
            refine WL.valw (R.mv (v := (.tuple ⟨[(int r39.1), (int r39.2)]⟩)) rfl) ?_
            refine WL.valw (R.ext rfl rfl) ?_
            refine WL.valw (R.ext rfl rfl) ?_
            refine WL.valw (R.as (v := (int r39.1)) rfl) ?_
            refine WL.valw (R.as (v := (int r39.2)) rfl) ?_
            refine WL.nil ?_
            refine WP.seq ?_
            refine WP.seq ?_
            refine WP.region ?_
            refine WL.valw (R.mv (v := (int r39.2)) rfl) ?_
            refine WL.valw (R.neq rfl rfl) ?_
            refine WL.nil ?_
            rcases condE h with ⟨hc44, h⟩ | ⟨hc44, h⟩
            · refine WP.condT rfl hc44 ?_
              refine WP.seq ?_
              refine WP.region ?_
              refine WL.valw (R.mv (v := (int r39.2)) rfl) ?_
              refine WL.valw (R.as (v := (str [])) rfl) ?_
              refine WL.valw (R.as (v := (str [])) rfl) ?_
              refine WL.valw (R.as (v := (int 0)) rfl) ?_
              refine WL.valw (R.as (v := (int r39.2)) rfl) ?_
              refine WL.nil ?_
              obtain rfl := Option.some.inj h
              refine WP.ret (Out.four rfl S rfl rfl rfl rfl ?_)
              exact rfl
            · refine WP.condF rfl hc44 ?_
              refine WP.skip ?_
              refine WP.seq ?_
              refine WP.quiet S (by kernel_rfl) (by kernel_rfl) ?_
              refine WQ.val (fun _ _ => (R.mv (v := (str p_line)) rfl)) ?_
              refine WQ.val (fun _ _ => (R.mv (v := (int r2)) rfl)) ?_
              obtain ⟨s48, hs48, h⟩ := bindE h
              refine WQ.val (fun _ _ => (R.subShi rfl rfl Tryz.underlying9 hs48)) ?_
              refine WQ.val (fun _ _ => (R.mv (v := (str p_line)) rfl)) ?_
              refine WQ.val (fun _ _ => (R.mv (v := (int r2)) rfl)) ?_
              refine WQ.val (fun _ _ => (R.add rfl rfl)) ?_
              refine WQ.val (fun _ _ => (R.mv (v := (int r8)) rfl)) ?_
              obtain ⟨s49, hs49, h⟩ := bindE h
              refine WQ.val (fun _ _ => (R.subS rfl rfl rfl Tryz.underlying9 hs49)) ?_
              refine WQ.val (fun _ _ => (R.mv (v := (int r39.1)) rfl)) ?_
              refine WQ.val (fun _ _ => (R.as (v := (str s48)) rfl)) ?_
              refine WQ.val (fun _ _ => (R.as (v := (str s49)) rfl)) ?_
              refine WQ.val (fun _ _ => (R.as (v := (int r39.1)) rfl)) ?_
              refine WQ.val (fun _ _ => (R.as (v := (int 0)) rfl)) ?_
              refine WQ.nil ?_
              intro w45 H46 hle47 S
              obtain rfl := Option.some.inj h
              refine WP.ret (Out.four rfl S rfl rfl rfl rfl ?_)
              exact rfl
set_option maxRecDepth 10000 in
set_option maxHeartbeats 4000000 in
theorem ref01_ParseField_ok {w0 : World} {H0 : Hp} (hw : Holds w0 H0) (hG : Tryz.Gl w0) (p_line : Str) {r : (GField × Int)} (h : ref01_ParseField p_line = some r) :
    Con Tryz.prog 75 [(str p_line)] w0 H0 (fun H' v => v = (.tuple ⟨[(agg [(str r.1.fName), (str r.1.fValue)]), (int r.2)]⟩)) := by
  refine Con.mk (N := 44) Tryz.func75 rfl rfl (by kernel_rfl) rfl ?_
  have S := St.start hw
  refine WP.seq ?_
  refine WP.region ?_
  refine W.alloc [(str []), (str [])] S zer53 ?_
  intro b1 w2 S
  refine WL.valw (R.as (v := (int 0)) rfl) ?_
  refine WL.nil ?_
  refine WP.seq ?_
  refine WP.seq ?_
  refine WP.region ?_
  refine WL.valw (R.mv (v := (str p_line)) rfl) ?_
  refine WL.valw (R.lenS (a := p_line) rfl Tryz.underlying9) ?_
  refine WL.valw (R.gtr rfl rfl) ?_
  refine WL.nil ?_
  rcases condE h with ⟨hc3, h⟩ | ⟨hc3, h⟩
  · refine WP.condT rfl hc3 ?_
    refine WP.seq ?_
    refine WP.region ?_
    refine WL.valw (R.build [] [(str []), (str [])] bp53 zer53 rfl rfl) ?_
    refine W.store (i := 0) [(str []), (str [])] S rfl rfl rfl lay53 rfl rfl (Nat.le_of_ble_eq_true rfl) rfl ?_
    intro w4 S
    refine WL.valw (R.as (v := (int 4)) rfl) ?_
    refine WL.nil ?_
    obtain rfl := Option.some.inj h
    refine WP.ret (Out.two rfl S (Res.cellB (i := 0) (cs := [(str []), (str [])]) S rfl rfl lay53 rfl rfl) rfl ?_)
    exact rfl
  · refine WP.condF rfl hc3 ?_
    refine WP.skip ?_
    refine WP.seq ?_
    refine WP.region ?_
    refine WL.valw (R.mv (v := (str p_line)) rfl) ?_
    obtain ⟨r5, hr5, h⟩ := bindE h
    refine W.call S rfl (ref01_Index_ok S.holds (hG.post S.post) p_line 58 0 hr5) ?_
    rintro v6 w7 H8 hle9 S rfl
    refine WL.valw (R.as (v := (int r5)) rfl) ?_
    refine WL.nil ?_
    refine WP.seq ?_
    refine WP.seq ?_
    refine WP.region ?_
    refine WL.valw (R.mv (v := (int r5)) rfl) ?_
    refine WL.valw (R.lss rfl rfl) ?_
    refine WL.valw (R.mv (v := (boo (decide (r5 < 0)))) rfl) ?_
    obtain ⟨b18, hg11, h⟩ := bindE h
    refine WL.grpw 6 [15, 16, 17, 18, 19] 20 (boo b18) (fun w => ∃ H' : Hp, H8.le H' ∧ St w0 H0 w H' [.box b1 53 [(str []), (str [])]]) ?_ ?_
    · rcases boolE (decide (r5 < 0)) with hb10 | hb10
      · replace hg11 := condT hg11 hb10
        refine WL.gno rfl rfl hb10 ?_
        refine WL.gno rfl rfl hb10 ?_
        refine WL.gno rfl rfl hb10 ?_
        refine WL.gno rfl rfl hb10 ?_
        refine WL.gno rfl rfl hb10 ?_
        refine WL.valw (R.pickT rfl hb10 rfl) ?_
        exact WL.nil ⟨(congrArg boo (Option.some.inj hg11)), (by repeat (first | refine agree_upd rfl ?_ | refine agree_upds' rfl ?_ | exact agree_refl)), ⟨H8, (Hp.le.refl _), S⟩⟩
      · replace hg11 := condF hg11 hb10
        refine WL.gyes rfl rfl hb10 ?_
        refine WL.valw (R.mv (v := (str p_line)) rfl) ?_
        refine WL.gyes rfl rfl hb10 ?_
        refine WL.valw (R.mv (v := (int r5)) rfl) ?_
        refine WL.gyes rfl rfl hb10 ?_
        obtain ⟨s12, hs12, hg11⟩ := bindE hg11
        refine WL.valw (R.subShi rfl rfl Tryz.underlying9 hs12) ?_
        refine WL.gyes rfl rfl hb10 ?_
        obtain ⟨r13, hr13, hg11⟩ := bindE hg11
        refine W.call S rfl (ref01_Token_ok S.holds (hG.post S.post) s12 hr13) ?_
        rintro v14 w15 H16 hle17 S rfl
        refine WL.gyes rfl rfl hb10 ?_
        refine WL.valw (R.not rfl) ?_
        refine WL.valw (R.pickF rfl hb10 rfl) ?_
        exact WL.nil ⟨(congrArg boo (Option.some.inj hg11)), (by repeat (first | refine agree_upd rfl ?_ | refine agree_upds' rfl ?_ | exact agree_refl)), ⟨H16, hle17, S⟩⟩
    · intro us w20 ⟨H19, hle21, S⟩
      refine WL.valw (R.mv (v := (boo b18)) rfl) ?_
      obtain ⟨b30, hg23, h⟩ := bindE h
      refine WL.grpw 7 [22, 23, 24, 25, 26, 27] 28 (boo b30) (fun w => ∃ H' : Hp, H19.le H' ∧ St w0 H0 w H' [.box b1 53 [(str []), (str [])]]) ?_ ?_
      · rcases boolE b18 with hb22 | hb22
        · replace hg23 := condT hg23 hb22
          refine WL.gno rfl rfl hb22 ?_
          refine WL.gno rfl rfl hb22 ?_
          refine WL.gno rfl rfl hb22 ?_
          refine WL.gno rfl rfl hb22 ?_
          refine WL.gno rfl rfl hb22 ?_
          refine WL.gno rfl rfl hb22 ?_
          refine WL.valw (R.pickT rfl hb22 rfl) ?_
          exact WL.nil ⟨(congrArg boo (Option.some.inj hg23)), (by repeat (first | refine agree_upd rfl ?_ | refine agree_upds' rfl ?_ | exact agree_refl)), ⟨H19, (Hp.le.refl _), S⟩⟩
        · replace hg23 := condF hg23 hb22
          refine WL.gyes rfl rfl hb22 ?_
          refine WL.valw (R.mv (v := (str p_line)) rfl) ?_
          refine WL.gyes rfl rfl hb22 ?_
          refine WL.valw (R.mv (v := (int r5)) rfl) ?_
          refine WL.gyes rfl rfl hb22 ?_
          refine WL.valw (R.add rfl rfl) ?_
          refine WL.gyes rfl rfl hb22 ?_
          obtain ⟨s24, hs24, hg23⟩ := bindE hg23
          refine WL.valw (R.subSlo rfl rfl Tryz.underlying9 hs24) ?_
          refine WL.gyes rfl rfl hb22 ?_
          obtain ⟨r25, hr25, hg23⟩ := bindE hg23
          refine W.call S rfl (ref01_Text_ok S.holds (hG.post S.post) s24 hr25) ?_
          rintro v26 w27 H28 hle29 S rfl
          refine WL.gyes rfl rfl hb22 ?_
          refine WL.valw (R.not rfl) ?_
          refine WL.valw (R.pickF rfl hb22 rfl) ?_
          exact WL.nil ⟨(congrArg boo (Option.some.inj hg23)), (by repeat (first | refine agree_upd rfl ?_ | refine agree_upds' rfl ?_ | exact agree_refl)), ⟨H28, hle29, S⟩⟩
      · intro us w32 ⟨H31, hle33, S⟩
        refine WL.nil ?_
        rcases condE h with ⟨hc34, h⟩ | ⟨hc34, h⟩
        · refine WP.condT rfl hc34 ?_
          refine WP.seq ?_
          refine WP.region ?_
          refine WL.valw (R.build [] [(str []), (str [])] bp53 zer53 rfl rfl) ?_
          refine W.store (i := 0) [(str []), (str [])] S rfl rfl rfl lay53 rfl rfl (Nat.le_of_ble_eq_true rfl) rfl ?_
          intro w35 S
          refine WL.valw (R.as (v := (int 1)) rfl) ?_
          refine WL.nil ?_
          obtain rfl := Option.some.inj h
          refine WP.ret (Out.two rfl S (Res.cellB (i := 0) (cs := [(str []), (str [])]) S rfl rfl lay53 rfl rfl) rfl ?_)
          exact rfl
        · refine WP.condF rfl hc34 ?_
          refine WP.skip ?_
          refine WP.seq ?_
          refine WP.draw (by kernel_rfl) 11 rfl #[false, false, false, false, false, false, false, false, false, false, false] rfl ?_
          have S := S.drew
          refine WA.take (i := 0) #[true, false, false, false, false, false, false, false, false, false, false] rfl (by kernel_rfl) (by kernel_rfl) (by kernel_rfl) rfl (fun _ => (R.mv (v := (str p_line)) rfl)) ?_
          refine WA.take (i := 1) #[true, true, false, false, false, false, false, false, false, false, false] rfl (by kernel_rfl) (by kernel_rfl) (by kernel_rfl) rfl (fun _ => (R.mv (v := (int r5)) rfl)) ?_
          obtain ⟨s36, hs36, h⟩ := bindE h
          refine WA.take (i := 2) #[true, true, true, false, false, false, false, false, false, false, false] rfl (by kernel_rfl) (by kernel_rfl) (by kernel_rfl) rfl (fun _ => (R.subShi rfl rfl Tryz.underlying9 hs36)) ?_
          refine WA.take (i := 3) #[true, true, true, true, false, false, false, false, false, false, false] rfl (by kernel_rfl) (by kernel_rfl) (by kernel_rfl) rfl (fun _ => (R.mv (v := (str p_line)) rfl)) ?_
          refine WA.take (i := 4) #[true, true, true, true, true, false, false, false, false, false, false] rfl (by kernel_rfl) (by kernel_rfl) (by kernel_rfl) rfl (fun _ => (R.mv (v := (int r5)) rfl)) ?_
          refine WA.take (i := 5) #[true, true, true, true, true, true, false, false, false, false, false] rfl (by kernel_rfl) (by kernel_rfl) (by kernel_rfl) rfl (fun _ => (R.add rfl rfl)) ?_
          obtain ⟨s37, hs37, h⟩ := bindE h
          refine WA.take (i := 6) #[true, true, true, true, true, true, true, false, false, false, false] rfl (by kernel_rfl) (by kernel_rfl) (by kernel_rfl) rfl (fun _ => (R.subSlo rfl rfl Tryz.underlying9 hs37)) ?_
          refine WA.two (i := 7) (j := 9) #[true, true, true, true, true, true, true, true, false, false, false] #[true, true, true, true, true, true, true, false, false, true, false] rfl rfl (by kernel_rfl) rfl rfl ?_ ?_
          · obtain ⟨r38, hr38, h⟩ := bindE h
            refine W.call S rfl (ref01_Trim_ok S.holds (hG.post S.post) s37 hr38) ?_
            rintro v39 w40 H41 hle42 S rfl
            refine WL.nil ?_
            refine WA.take (i := 8) #[true, true, true, true, true, true, true, true, true, false, false] rfl (by kernel_rfl) (by kernel_rfl) (by kernel_rfl) rfl (fun _ => (R.build [(0, (str s36)), (1, (str r38))] [(str s36), (str r38)] bp53 zer53 rfl rfl)) ?_
            refine WA.one (i := 9) #[true, true, true, true, true, true, true, true, true, true, false] rfl (by kernel_rfl) rfl ?_
            refine W.alloc [(str []), (str [])] S zer53 ?_
            intro b43 w44 S
            refine WL.nil ?_
            refine WA.one (i := 10) #[true, true, true, true, true, true, true, true, true, true, true] rfl (by kernel_rfl) rfl ?_
            refine W.store (i := 0) [(str s36), (str r38)] S rfl rfl rfl lay53 rfl rfl (Nat.le_of_ble_eq_true rfl) rfl ?_
            intro w45 S
            refine WL.nil ?_
            refine WA.done (by kernel_rfl) ?_
            refine WP.seq ?_
            refine WP.seq ?_
            refine WP.region ?_
            refine WL.valw (R.loadBN (i := 0) (vs := [(str s36), (str r38)]) S rfl rfl lay53 rfl rfl) ?_
            obtain ⟨r46, hr46, h⟩ := bindE h
            refine W.call S rfl (ref01_ValidField_ok S.holds (hG.post S.post) (⟨s36, r38⟩ : GField) hr46) ?_
            rintro v47 w48 H49 hle50 S rfl
            refine WL.valw (R.not rfl) ?_
            refine WL.nil ?_
            rcases condE h with ⟨hc51, h⟩ | ⟨hc51, h⟩
            · refine WP.condT rfl hc51 ?_
              refine WP.seq ?_
              refine WP.region ?_
              refine WL.valw (R.build [] [(str []), (str [])] bp53 zer53 rfl rfl) ?_
              refine W.store (i := 1) [(str []), (str [])] S rfl rfl rfl lay53 rfl rfl (Nat.le_of_ble_eq_true rfl) rfl ?_
              intro w52 S
              refine WL.valw (R.as (v := (int 4)) rfl) ?_
              refine WL.nil ?_
              obtain rfl := Option.some.inj h
              refine WP.ret (Out.two rfl S (Res.cellB (i := 1) (cs := [(str []), (str [])]) S rfl rfl lay53 rfl rfl) rfl ?_)
              exact rfl
            · refine WP.condF rfl hc51 ?_
              refine WP.skip ?_
              refine WP.seq ?_
              refine WP.region ?_
              refine WL.valw (R.loadBN (i := 0) (vs := [(str s36), (str r38)]) S rfl rfl lay53 rfl rfl) ?_
              refine W.store (i := 1) [(str s36), (str r38)] S rfl rfl rfl lay53 rfl rfl (Nat.le_of_ble_eq_true rfl) rfl ?_
              intro w53 S
              refine WL.valw (R.as (v := (int 0)) rfl) ?_
              refine WL.nil ?_
              obtain rfl := Option.some.inj h
              refine WP.ret (Out.two rfl S (Res.cellB (i := 1) (cs := [(str s36), (str r38)]) S rfl rfl lay53 rfl rfl) rfl ?_)
              exact rfl
          · refine W.alloc [(str []), (str [])] S zer53 ?_
            intro b38 w39 S
            refine WL.nil ?_
            refine WA.one (i := 7) #[true, true, true, true, true, true, true, true, false, true, false] rfl (by kernel_rfl) rfl ?_
            obtain ⟨r40, hr40, h⟩ := bindE h
            refine W.call S rfl (ref01_Trim_ok S.holds (hG.post S.post) s37 hr40) ?_
            rintro v41 w42 H43 hle44 S rfl
            refine WL.nil ?_
            refine WA.take (i := 8) #[true, true, true, true, true, true, true, true, true, true, false] rfl (by kernel_rfl) (by kernel_rfl) (by kernel_rfl) rfl (fun _ => (R.build [(0, (str s36)), (1, (str r40))] [(str s36), (str r40)] bp53 zer53 rfl rfl)) ?_
            refine WA.one (i := 10) #[true, true, true, true, true, true, true, true, true, true, true] rfl (by kernel_rfl) rfl ?_
            refine W.store (i := 0) [(str s36), (str r40)] S rfl rfl rfl lay53 rfl rfl (Nat.le_of_ble_eq_true rfl) rfl ?_
            intro w45 S
            refine WL.nil ?_
            refine WA.done (by kernel_rfl) ?_
            refine WP.seq ?_
            refine WP.seq ?_
            refine WP.region ?_
            refine WL.valw (R.loadBN (i := 0) (vs := [(str s36), (str r40)]) S rfl rfl lay53 rfl rfl) ?_
            obtain ⟨r46, hr46, h⟩ := bindE h
            refine W.call S rfl (ref01_ValidField_ok S.holds (hG.post S.post) (⟨s36, r40⟩ : GField) hr46) ?_
            rintro v47 w48 H49 hle50 S rfl
            refine WL.valw (R.not rfl) ?_
            refine WL.nil ?_
            rcases condE h with ⟨hc51, h⟩ | ⟨hc51, h⟩
            · refine WP.condT rfl hc51 ?_
              refine WP.seq ?_
              refine WP.region ?_
              refine WL.valw (R.build [] [(str []), (str [])] bp53 zer53 rfl rfl) ?_
              refine W.store (i := 1) [(str []), (str [])] S rfl rfl rfl lay53 rfl rfl (Nat.le_of_ble_eq_true rfl) rfl ?_
              intro w52 S
              refine WL.valw (R.as (v := (int 4)) rfl) ?_
              refine WL.nil ?_
              obtain rfl := Option.some.inj h
              refine WP.ret (Out.two rfl S (Res.cellB (i := 1) (cs := [(str []), (str [])]) S rfl rfl lay53 rfl rfl) rfl ?_)
              exact rfl
            · refine WP.condF rfl hc51 ?_
              refine WP.skip ?_
              refine WP.seq ?_
              refine WP.region ?_
              refine WL.valw (R.loadBN (i := 0) (vs := [(str s36), (str r40)]) S rfl rfl lay53 rfl rfl) ?_
              refine W.store (i := 1) [(str s36), (str r40)] S rfl rfl rfl lay53 rfl rfl (Nat.le_of_ble_eq_true rfl) rfl ?_
              intro w53 S
              refine WL.valw (R.as (v := (int 0)) rfl) ?_
              refine WL.nil ?_
              obtain rfl := Option.some.inj h
              refine WP.ret (Out.two rfl S (Res.cellB (i := 1) (cs := [(str s36), (str r40)]) S rfl rfl lay53 rfl rfl) rfl ?_)
              exact rfl
set_option maxRecDepth 10000 in
set_option maxHeartbeats 4000000 in
theorem ref01_head_ok {w0 : World} {H0 : Hp} (hw : Holds w0 H0) (hG : Tryz.Gl w0) (p_ppend : Str) (p_x1 : Bool) {r : (Str × (List GField) × Int × Int)} (h : ref01_head p_ppend p_x1 = some r) :
    Con Tryz.prog 40 [(str p_ppend), (boo p_x1)] w0 H0 (fun H' v => ∃ u1 : Value, v = (.tuple ⟨[(str r.1), u1, (int r.2.2.1), (int r.2.2.2)]⟩) ∧ Sl (α := GField) H' u1 r.2.1) := by
  refine Con.mk (N := 77) Tryz.func40 rfl rfl (by kernel_rfl) rfl ?_
  have S := St.start hw
  refine WP.seq ?_
  refine WP.region ?_
  refine WL.valw (R.as (v := (str [])) rfl) ?_
  refine WL.valw (R.as (v := (.slice none 0 0)) rfl) ?_
  refine WL.valw (R.as (v := (int 0)) rfl) ?_
  refine WL.valw (R.as (v := (int 0)) rfl) ?_
  refine WL.nil ?_
  refine WP.seq ?_
  refine WP.region ?_
  refine WL.valw (R.as (v := (str [])) rfl) ?_
  refine WL.nil ?_
  refine WP.seq ?_
  refine WP.region ?_
  refine WL.valw (R.as (v := (.slice none 0 0)) rfl) ?_
  refine WL.nil ?_
  refine WP.seq ?_
  refine WP.region ?_
  refine WL.valw (R.as (v := (int 0)) rfl) ?_
  refine WL.nil ?_
  refine WP.seq ?_
  refine WP.region ?_
  refine WL.valw (R.as (v := (int 0)) rfl) ?_
  refine WL.nil ?_
  have S := S.addNil 53 2
  obtain ⟨r17, hr18, h⟩ := bindE h
  refine WP.cut (fun _ _ => False) ?_ (fun _ _ h => h.elim)
  refine WP.block ?_
  refine WP.loopM (ref01_head_L0 p_ppend p_x1) (fun s f w => match s with | (y_4, y_6, y_10, y_12) => ∃ (H1 : Hp) (v7 : Value), f 0 = (str p_ppend) ∧ f 1 = (boo p_x1) ∧ f 8 = (str y_4) ∧ f 9 = v7 ∧ f 10 = (int y_10) ∧ f 11 = (int y_12) ∧ Sl (α := GField) H1 v7 y_6 ∧ St w0 H0 w H1 [.row v7 53 2 y_6.length]) ([], ([] : List GField), 0, 0) r17 hr18 ?_ ?_
  · exact ⟨H0, .slice none 0 0, rfl, rfl, rfl, rfl, rfl, rfl, Sl.nil, S⟩
  · intro s f w hI y14 hy15 hy16
    obtain ⟨y_4, y_6, y_10, y_12⟩ := s
    obtain ⟨H1, v7, h2, h3, h5, h9, h11, h13, R8, S⟩ := hI
    refine WP.seq ?_
    refine WP.block ?_
    refine WP.seq ?_
    refine WP.region ?_
    refine WL.valw (R.mv (v := (str p_ppend)) h2) ?_
    refine WL.valw (R.mv (v := (int y_10)) h11) ?_
    obtain ⟨r19, hr19, hy15⟩ := bindE hy15
    refine W.call S rfl (ref01_NextLine_ok S.holds (hG.post S.post) p_ppend y_10 hr19) ?_
    rintro v20 w21 H22 hle23 S rfl
    have R8 := Sl.mono R8 hle23
    refine WL.valw (R.mv (v := (.tuple ⟨[(str r19.1), (int r19.2.1), (int r19.2.2)]⟩)) rfl) ?_
    refine WL.valw (R.ext rfl rfl) ?_
    refine WL.valw (R.ext rfl rfl) ?_
    refine WL.valw (R.ext rfl rfl) ?_
    refine WL.valw (R.as (v := (str r19.1)) rfl) ?_
    refine WL.valw (R.as (v := (int r19.2.1)) rfl) ?_
    refine WL.valw (R.as (v := (int r19.2.2)) rfl) ?_
    refine WL.nil ?_
    refine WP.seq ?_
    refine WP.seq ?_
    refine WP.region ?_
    refine WL.valw (R.mv (v := (int r19.2.2)) rfl) ?_
    refine WL.valw (R.neq rfl rfl) ?_
    refine WL.nil ?_
    rcases condE hy15 with ⟨hc24, hy15⟩ | ⟨hc24, hy15⟩
    · refine WP.condT rfl hc24 ?_
      refine WP.seq ?_
      refine WP.region ?_
      refine WL.valw (R.mv (v := (int r19.2.2)) rfl) ?_
      refine WL.valw (R.as (v := (str [])) rfl) ?_
      refine WL.valw (R.as (v := (.slice none 0 0)) rfl) ?_
      refine WL.valw (R.as (v := (int 0)) rfl) ?_
      refine WL.valw (R.as (v := (int r19.2.2)) rfl) ?_
      refine WL.nil ?_
      obtain rfl := Option.some.inj hy15
      obtain rfl := hy16
      obtain rfl := Option.some.inj h
      refine WP.ret (Out.four rfl S rfl rfl rfl rfl ?_)
      exact ⟨_, rfl, Sl.nil⟩
    · refine WP.condF rfl hc24 ?_
      refine WP.skip ?_
      refine WP.seq ?_
      refine WP.region ?_
      refine WL.valw (R.mv (v := (int r19.2.1)) rfl) ?_
      refine WL.valw (R.as (v := (int r19.2.1)) rfl) ?_
      refine WL.nil ?_
      refine WP.seq ?_
      refine WP.seq ?_
      refine WP.region ?_
      refine WL.valw (R.mv (v := (int r19.2.1)) rfl) ?_
      refine WL.valw (R.gtr rfl rfl) ?_
      refine WL.valw (R.mv (v := (boo (decide (16000 < r19.2.1)))) rfl) ?_
      refine WL.grp 7 [32, 33, 34, 35, 36, 37] 38 (boo ((decide (16000 < r19.2.1)) || ((decide (64 < y_12)) && (r19.1 != [])))) ?_ ?_
      · rcases boolE (decide (16000 < r19.2.1)) with hb25 | hb25
        · refine WL.gno rfl rfl hb25 ?_
          refine WL.gno rfl rfl hb25 ?_
          refine WL.gno rfl rfl hb25 ?_
          refine WL.gund rfl rfl ?_
          refine WL.gund rfl rfl ?_
          refine WL.gno rfl rfl hb25 ?_
          refine WL.valw (R.pickT rfl hb25 rfl) ?_
          exact WL.nil ⟨(orT hb25), (by repeat (first | refine agree_upd rfl ?_ | refine agree_upds' rfl ?_ | exact agree_refl)), rfl⟩
        · refine WL.gyes rfl rfl hb25 ?_
          refine WL.valw (R.mv (v := (int y_12)) h13) ?_
          refine WL.gyes rfl rfl hb25 ?_
          refine WL.valw (R.gtr rfl rfl) ?_
          refine WL.gyes rfl rfl hb25 ?_
          refine WL.valw (R.mv (v := (boo (decide (64 < y_12)))) rfl) ?_
          refine WL.grp 3 [35, 36] 37 (boo ((decide (64 < y_12)) && (r19.1 != []))) ?_ ?_
          · rcases boolE (decide (64 < y_12)) with hb27 | hb27
            · refine WL.gyes rfl rfl hb27 ?_
              refine WL.valw (R.mv (v := (str r19.1)) rfl) ?_
              refine WL.gyes rfl rfl hb27 ?_
              refine WL.valw (R.neqS (a := r19.1) (b := []) rfl rfl) ?_
              refine WL.gyes rfl rfl hb25 ?_
              refine WL.valw (R.pickT rfl hb27 rfl) ?_
              exact WL.nil ⟨(andT hb27), (by repeat (first | refine agree_upd rfl ?_ | refine agree_upds' rfl ?_ | exact agree_refl)), rfl⟩
            · refine WL.gno rfl rfl hb27 ?_
              refine WL.gno rfl rfl hb27 ?_
              refine WL.gyes rfl rfl hb25 ?_
              refine WL.valw (R.pickF rfl hb27 rfl) ?_
              exact WL.nil ⟨(andF hb27), (by repeat (first | refine agree_upd rfl ?_ | refine agree_upds' rfl ?_ | exact agree_refl)), rfl⟩
          · intro us
            refine WL.valw (R.pickF rfl hb25 rfl) ?_
            exact WL.nil ⟨(orF hb25), (by repeat (first | refine agree_upd rfl ?_ | refine agree_upds' rfl ?_ | exact agree_refl)), rfl⟩
      · intro us
        refine WL.nil ?_
        rcases condE hy15 with ⟨hc29, hy15⟩ | ⟨hc29, hy15⟩
        · refine WP.condT rfl hc29 ?_
          refine WP.seq ?_
          refine WP.region ?_
          refine WL.valw (R.as (v := (str [])) rfl) ?_
          refine WL.valw (R.as (v := (.slice none 0 0)) rfl) ?_
          refine WL.valw (R.as (v := (int 0)) rfl) ?_
          refine WL.valw (R.as (v := (int 4)) rfl) ?_
          refine WL.nil ?_
          obtain rfl := Option.some.inj hy15
          obtain rfl := hy16
          obtain rfl := Option.some.inj h
          refine WP.ret (Out.four rfl S rfl rfl rfl rfl ?_)
          exact ⟨_, rfl, Sl.nil⟩
        · refine WP.condF rfl hc29 ?_
          refine WP.skip ?_
          refine WP.seq ?_
          refine WP.seq ?_
          refine WP.region ?_
          refine WL.valw (R.mv (v := (int y_12)) h13) ?_
          refine WL.valw (R.eql rfl rfl) ?_
          refine WL.nil ?_
          rcases condE hy15 with ⟨hc30, hy15⟩ | ⟨hc30, hy15⟩
          · refine WP.condT rfl hc30 ?_
            refine WP.seq ?_
            refine WP.seq ?_
            refine WP.region ?_
            refine WL.valw (R.mv (v := (boo p_x1)) h3) ?_
            refine WL.nil ?_
            obtain ⟨y_38, hj40, hy15⟩ := bindE hy15
            refine WP.cut (fun f w => ∃ (H31 : Hp), f 0 = (str p_ppend) ∧ f 1 = (boo p_x1) ∧ f 9 = v7 ∧ f 10 = (int r19.2.1) ∧ f 11 = (int y_12) ∧ f 12 = (str r19.1) ∧ f 14 = (int y_38) ∧ Sl (α := GField) H31 v7 y_6 ∧ St w0 H0 w H31 [.row v7 53 2 y_6.length]) ?_ ?_
            · rcases condE hj40 with ⟨hc42, hj40⟩ | ⟨hc42, hj40⟩
              · refine WP.condT rfl hc42 ?_
                refine WP.region ?_
                refine WL.valw (R.mv (v := (str r19.1)) rfl) ?_
                obtain ⟨r43, hr43, hj40⟩ := bindE hj40
                refine W.call S rfl (ref01_ParseRequestLine_ok S.holds (hG.post S.post) r19.1 hr43) ?_
                rintro v44 w45 H46 hle47 S rfl
                have R8 := Sl.mono R8 hle47
                refine WL.valw (R.mv (v := (.tuple ⟨[(str r43.1), (str r43.2.1), (int r43.2.2.1), (int r43.2.2.2)]⟩)) rfl) ?_
                refine WL.valw (R.ext rfl rfl) ?_
                refine WL.valw (R.ext rfl rfl) ?_
                refine WL.valw (R.ext rfl rfl) ?_
                refine WL.valw (R.ext rfl rfl) ?_
                refine WL.valw (R.as (v := (int r43.2.2.2)) rfl) ?_
                refine WL.nil ?_
                obtain rfl := Option.some.inj hj40
                exact ⟨H46, h2, h3, h9, rfl, h13, rfl, rfl, R8, S⟩
              · refine WP.condF rfl hc42 ?_
                refine WP.region ?_
                refine WL.valw (R.mv (v := (str r19.1)) rfl) ?_
                obtain ⟨r48, hr48, hj40⟩ := bindE hj40
                refine W.call S rfl (ref01_ParseStatusLine_ok S.holds (hG.post S.post) r19.1 hr48) ?_
                rintro v49 w50 H51 hle52 S rfl
                have R8 := Sl.mono R8 hle52
                refine WL.valw (R.mv (v := (.tuple ⟨[(int r48.1), (int r48.2.1), (str r48.2.2.1), (int r48.2.2.2)]⟩)) rfl) ?_
                refine WL.valw (R.ext rfl rfl) ?_
                refine WL.valw (R.ext rfl rfl) ?_
                refine WL.valw (R.ext rfl rfl) ?_
                refine WL.valw (R.ext rfl rfl) ?_
                refine WL.valw (R.as (v := (int r48.2.2.2)) rfl) ?_
                refine WL.nil ?_
                obtain rfl := Option.some.inj hj40
                exact ⟨H51, h2, h3, h9, rfl, h13, rfl, rfl, R8, S⟩
            · rintro f w ⟨H31, h32, h33, h34, h35, h36, h37, h39, R8, S⟩
              refine WP.seq ?_
              refine WP.seq ?_
              refine WP.region ?_
              refine WL.valw (R.mv (v := (int y_38)) h39) ?_
              refine WL.valw (R.neq rfl rfl) ?_
              refine WL.nil ?_
              rcases condE hy15 with ⟨hc53, hy15⟩ | ⟨hc53, hy15⟩
              · refine WP.condT rfl hc53 ?_
                refine WP.seq ?_
                refine WP.region ?_
                refine WL.valw (R.mv (v := (int y_38)) h39) ?_
                refine WL.valw (R.as (v := (str [])) rfl) ?_
                refine WL.valw (R.as (v := (.slice none 0 0)) rfl) ?_
                refine WL.valw (R.as (v := (int 0)) rfl) ?_
                refine WL.valw (R.as (v := (int y_38)) rfl) ?_
                refine WL.nil ?_
                obtain rfl := Option.some.inj hy15
                obtain rfl := hy16
                obtain rfl := Option.some.inj h
                refine WP.ret (Out.four rfl S rfl rfl rfl rfl ?_)
                exact ⟨_, rfl, Sl.nil⟩
              · refine WP.condF rfl hc53 ?_
                refine WP.skip ?_
                refine WP.seq ?_
                refine WP.region ?_
                refine WL.valw (R.mv (v := (str r19.1)) h37) ?_
                refine WL.valw (R.as (v := (str r19.1)) rfl) ?_
                refine WL.nil ?_
                refine WP.exit ?_
                refine WP.region ?_
                refine WL.valw (R.mv (v := (int y_12)) h36) ?_
                refine WL.valw (R.add rfl rfl) ?_
                refine WL.valw (R.as (v := (int (wr (y_12 + 1)))) rfl) ?_
                refine WL.nil ?_
                obtain rfl := Option.some.inj hy15
                exact ⟨rfl, ⟨H31, v7, h32, h33, rfl, h34, h35, rfl, R8, S⟩⟩
          · refine WP.condF rfl hc30 ?_
            refine WP.skip ?_
            refine WP.seq ?_
            refine WP.seq ?_
            refine WP.region ?_
            refine WL.valw (R.mv (v := (str r19.1)) rfl) ?_
            refine WL.valw (R.eqlS (a := r19.1) (b := []) rfl rfl) ?_
            refine WL.nil ?_
            rcases condE hy15 with ⟨hc54, hy15⟩ | ⟨hc54, hy15⟩
            · refine WP.condT rfl hc54 ?_
              refine WP.seq ?_
              refine WP.region ?_
              refine WL.valw (R.mv (v := (str y_4)) h5) ?_
              refine WL.valw (R.mv (v := v7) h9) ?_
              refine WL.valw (R.mv (v := (int r19.2.1)) rfl) ?_
              refine WL.valw (R.as (v := (str y_4)) rfl) ?_
              refine WL.valw (R.as (v := v7) rfl) ?_
              refine WL.valw (R.as (v := (int r19.2.1)) rfl) ?_
              refine WL.valw (R.as (v := (int 0)) rfl) ?_
              refine WL.nil ?_
              obtain rfl := Option.some.inj hy15
              obtain rfl := hy16
              obtain rfl := Option.some.inj h
              refine WP.ret (Out.four rfl S rfl rfl rfl rfl ?_)
              exact ⟨_, rfl, R8⟩
            · refine WP.condF rfl hc54 ?_
              refine WP.skip ?_
              refine WP.seq ?_
              refine WP.region ?_
              refine WL.valw (R.mv (v := (str r19.1)) rfl) ?_
              obtain ⟨r55, hr55, hy15⟩ := bindE hy15
              refine W.call S rfl (ref01_ParseField_ok S.holds (hG.post S.post) r19.1 hr55) ?_
              rintro v56 w57 H58 hle59 S rfl
              have R8 := Sl.mono R8 hle59
              refine WL.valw (R.mv (v := (.tuple ⟨[(agg [(str r55.1.fName), (str r55.1.fValue)]), (int r55.2)]⟩)) rfl) ?_
              refine WL.valw (R.ext rfl rfl) ?_
              refine WL.valw (R.ext rfl rfl) ?_
              refine W.alloc [(str []), (str [])] S zer53 ?_
              intro b60 w61 S
              refine W.store (i := 0) [(str r55.1.fName), (str r55.1.fValue)] S rfl rfl rfl lay53 rfl rfl (Nat.le_of_ble_eq_true rfl) rfl ?_
              intro w62 S
              refine WL.valw (R.as (v := (int r55.2)) rfl) ?_
              refine WL.nil ?_
              refine WP.seq ?_
              refine WP.seq ?_
              refine WP.region ?_
              refine WL.valw (R.mv (v := (int r55.2)) rfl) ?_
              refine WL.valw (R.neq rfl rfl) ?_
              refine WL.nil ?_
              rcases condE hy15 with ⟨hc63, hy15⟩ | ⟨hc63, hy15⟩
              · refine WP.condT rfl hc63 ?_
                refine WP.seq ?_
                refine WP.region ?_
                refine WL.valw (R.mv (v := (int r55.2)) rfl) ?_
                refine WL.valw (R.as (v := (str [])) rfl) ?_
                refine WL.valw (R.as (v := (.slice none 0 0)) rfl) ?_
                refine WL.valw (R.as (v := (int 0)) rfl) ?_
                refine WL.valw (R.as (v := (int r55.2)) rfl) ?_
                refine WL.nil ?_
                obtain rfl := Option.some.inj hy15
                obtain rfl := hy16
                obtain rfl := Option.some.inj h
                refine WP.ret (Out.four rfl S rfl rfl rfl rfl ?_)
                exact ⟨_, rfl, Sl.nil⟩
              · refine WP.condF rfl hc63 ?_
                refine WP.skip ?_
                refine WP.region ?_
                refine WL.valw (R.mv (v := v7) h9) ?_
                refine WL.valw (R.loadBN (i := 0) (vs := [(str r55.1.fName), (str r55.1.fValue)]) S rfl rfl lay53 rfl rfl) ?_
                refine W.bslice (α := GField) [(agg [(str r55.1.fName), (str r55.1.fValue)])] ([r55.1] : List GField) S el24 rfl rfl rfl (by decide) (Go.Eng.encS ⟨rfl, rfl⟩ enc0) ?_
                intro u64 w65 H66 hle67 R68 S
                have R8 := Sl.mono R8 hle67
                obtain ⟨l69, hl69, hy15⟩ := bindE hy15
                refine W.app (α := GField) (i := 2) S el24 rfl rfl rfl R8 R68 hl69 ?_
                intro v70 w71 H72 hle73 R74 S
                have R8 := Sl.mono R8 hle73
                have R68 := Sl.mono R68 hle73
                refine WL.valw (R.as (v := v70) rfl) ?_
                refine WL.nil ?_
                refine WP.region ?_
                refine WL.valw (R.mv (v := (int y_12)) h13) ?_
                refine WL.valw (R.add rfl rfl) ?_
                refine WL.valw (R.as (v := (int (wr (y_12 + 1)))) rfl) ?_
                refine WL.nil ?_
                obtain rfl := Option.some.inj hy15
                exact ⟨rfl, ⟨H72, v70, h2, h3, h5, rfl, rfl, rfl, R74, (S.drop _ (.cons _ (.cons _ (.cons_cons _ .slnil))))⟩⟩
set_option maxRecDepth 10000 in
set_option maxHeartbeats 4000000 in
theorem ref01_framed_ok {w0 : World} {H0 : Hp} (hw : Holds w0 H0) (hG : Tryz.Gl w0) (p_l : (List GField)) {vp_l : Value} (Rp_l : Sl (α := GField) H0 vp_l p_l) {r : (Int × Int)} (h : ref01_framed p_l = some r) :
    Con Tryz.prog 42 [vp_l] w0 H0 (fun H' v => v = (.tuple ⟨[(int r.1), (int r.2)]⟩)) := by
  refine Con.mk (N := 63) Tryz.func42 rfl rfl (by kernel_rfl) rfl ?_
  have S := St.start hw
  refine WP.seq ?_
  refine WP.region ?_
  refine WL.valw (R.as (v := (int 0)) rfl) ?_
  refine WL.valw (R.as (v := (int 0)) rfl) ?_
  refine WL.nil ?_
  refine WP.seq ?_
  refine WP.region ?_
  refine WL.valw (R.mv (v := vp_l) rfl) ?_
  obtain ⟨r1, hr1, h⟩ := bindE h
  refine W.call S rfl (ref01_Get_ok S.holds (hG.post S.post) p_l [84, 114, 97, 110, 115, 102, 101, 114, 45, 69, 110, 99, 111, 100, 105, 110, 103] Rp_l hr1) ?_
  rintro v2 w3 H4 hle5 S R6
  have Rp_l := Sl.mono Rp_l hle5
  refine WL.valw (R.mv (v := vp_l) rfl) ?_
  obtain ⟨r7, hr7, h⟩ := bindE h
  refine W.call S rfl (ref01_Get_ok S.holds (hG.post S.post) p_l [67, 111, 110, 116, 101, 110, 116, 45, 76, 101, 110, 103, 116, 104] Rp_l hr7) ?_
  rintro v8 w9 H10 hle11 S R12
  have Rp_l := Sl.mono Rp_l hle11
  have R6 := Sl.mono R6 hle11
  refine WL.valw (R.as (v := v2) rfl) ?_
  refine WL.valw (R.as (v := v8) rfl) ?_
  refine WL.nil ?_
  refine WP.seq ?_
  refine WP.seq ?_
  refine WP.region ?_
  refine WL.valw (R.mv (v := v2) rfl) ?_
  refine WL.valw (R.lenL (α := Str) (xs := r1) (H := H10) R6 rfl Tryz.underlying23) ?_
  refine WL.valw (R.gtr rfl rfl) ?_
  refine WL.valw (R.mv (v := (boo (decide (1 < (r1.length : Int))))) rfl) ?_
  obtain ⟨b29, hg14, h⟩ := bindE h
  refine WL.grpw 11 [16, 17, 18, 19, 20, 21, 22, 23, 24, 25] 26 (boo b29) (fun w => ∃ H' : Hp, H10.le H' ∧ St w0 H0 w H' []) ?_ ?_
  · rcases boolE (decide (1 < (r1.length : Int))) with hb13 | hb13
    · replace hg14 := condT hg14 hb13
      refine WL.gno rfl rfl hb13 ?_
      refine WL.gno rfl rfl hb13 ?_
      refine WL.gno rfl rfl hb13 ?_
      refine WL.gno rfl rfl hb13 ?_
      refine WL.gund rfl rfl ?_
      refine WL.gund rfl rfl ?_
      refine WL.gund rfl rfl ?_
      refine WL.gund rfl rfl ?_
      refine WL.gund rfl rfl ?_
      refine WL.gno rfl rfl hb13 ?_
      refine WL.valw (R.pickT rfl hb13 rfl) ?_
      exact WL.nil ⟨(congrArg boo (Option.some.inj hg14)), (by repeat (first | refine agree_upd rfl ?_ | refine agree_upds' rfl ?_ | exact agree_refl)), ⟨H10, (Hp.le.refl _), S⟩⟩
    · replace hg14 := condF hg14 hb13
      refine WL.gyes rfl rfl hb13 ?_
      refine WL.valw (R.mv (v := v2) rfl) ?_
      refine WL.gyes rfl rfl hb13 ?_
      refine WL.valw (R.lenL (α := Str) (xs := r1) (H := H10) R6 rfl Tryz.underlying23) ?_
      refine WL.gyes rfl rfl hb13 ?_
      refine WL.valw (R.eql rfl rfl) ?_
      refine WL.gyes rfl rfl hb13 ?_
      refine WL.valw (R.mv (v := (boo ((r1.length : Int) == 1))) rfl) ?_
      obtain ⟨b25, hg16, hg14⟩ := bindE hg14
      refine WL.grpw 6 [20, 21, 22, 23, 24] 25 (boo b25) (fun w => ∃ H' : Hp, H10.le H' ∧ St w0 H0 w H' []) ?_ ?_
      · rcases boolE ((r1.length : Int) == 1) with hb15 | hb15
        · replace hg16 := condT hg16 hb15
          refine WL.gyes rfl rfl hb15 ?_
          refine WL.valw (R.mv (v := v2) rfl) ?_
          refine WL.gyes rfl rfl hb15 ?_
          obtain ⟨x17, hx17, hg16⟩ := bindE hg16
          refine W.idx (α := Str) R6 rfl rfl el23 hx17 ?_
          rintro a18 _ hA19 rfl
          refine WL.gyes rfl rfl hb15 ?_
          refine WL.valw (R.loadH (v := (str x17)) S rfl hA19 lay9 rfl) ?_
          refine WL.gyes rfl rfl hb15 ?_
          obtain ⟨r20, hr20, hg16⟩ := bindE hg16
          refine W.call S rfl (ref01_Fold_ok S.holds (hG.post S.post) x17 [99, 104, 117, 110, 107, 101, 100] hr20) ?_
          rintro v21 w22 H23 hle24 S rfl
          have Rp_l := Sl.mono Rp_l hle24
          have R6 := Sl.mono R6 hle24
          have R12 := Sl.mono R12 hle24
          have hA19 := At.mono hA19 hle24 (by simp)
          refine WL.gyes rfl rfl hb15 ?_
          refine WL.valw (R.not rfl) ?_
          refine WL.gyes rfl rfl hb13 ?_
          refine WL.valw (R.pickT rfl hb15 rfl) ?_
          exact WL.nil ⟨(congrArg boo (Option.some.inj hg16)), (by repeat (first | refine agree_upd rfl ?_ | refine agree_upds' rfl ?_ | exact agree_refl)), ⟨H23, hle24, S⟩⟩
        · replace hg16 := condF hg16 hb15
          refine WL.gno rfl rfl hb15 ?_
          refine WL.gno rfl rfl hb15 ?_
          refine WL.gno rfl rfl hb15 ?_
          refine WL.gno rfl rfl hb15 ?_
          refine WL.gno rfl rfl hb15 ?_
          refine WL.gyes rfl rfl hb13 ?_
          refine WL.valw (R.pickF rfl hb15 rfl) ?_
          exact WL.nil ⟨(congrArg boo (Option.some.inj hg16)), (by repeat (first | refine agree_upd rfl ?_ | refine agree_upds' rfl ?_ | exact agree_refl)), ⟨H10, (Hp.le.refl _), S⟩⟩
      · intro us w27 ⟨H26, hle28, S⟩
        have Rp_l := Sl.mono Rp_l hle28
        have R6 := Sl.mono R6 hle28
        have R12 := Sl.mono R12 hle28
        refine WL.valw (R.pickF rfl hb13 rfl) ?_
        exact WL.nil ⟨(congrArg boo (Option.some.inj hg14)), (by repeat (first | refine agree_upd rfl ?_ | refine agree_upds' rfl ?_ | exact agree_refl)), ⟨H26, hle28, S⟩⟩
  · intro us w31 ⟨H30, hle32, S⟩
    have Rp_l := Sl.mono Rp_l hle32
    have R6 := Sl.mono R6 hle32
    have R12 := Sl.mono R12 hle32
    refine WL.nil ?_
    rcases condE h with ⟨hc33, h⟩ | ⟨hc33, h⟩
    · refine WP.condT rfl hc33 ?_
      refine WP.seq ?_
      refine WP.region ?_
      refine WL.valw (R.as (v := (int 0)) rfl) ?_
      refine WL.valw (R.as (v := (int 7)) rfl) ?_
      refine WL.nil ?_
      obtain rfl := Option.some.inj h
      refine WP.ret (Out.two rfl S rfl rfl ?_)
      exact rfl
    · refine WP.condF rfl hc33 ?_
      refine WP.skip ?_
      refine WP.seq ?_
      refine WP.seq ?_
      refine WP.region ?_
      refine WL.valw (R.mv (v := v2) rfl) ?_
      refine WL.valw (R.lenL (α := Str) (xs := r1) (H := H30) R6 rfl Tryz.underlying23) ?_
      refine WL.valw (R.gtr rfl rfl) ?_
      refine WL.valw (R.mv (v := (boo (decide (0 < (r1.length : Int))))) rfl) ?_
      refine WL.grp 4 [31, 32, 33] 34 (boo ((decide (0 < (r1.length : Int))) && (decide (0 < (r7.length : Int))))) ?_ ?_
      · rcases boolE (decide (0 < (r1.length : Int))) with hb34 | hb34
        · refine WL.gyes rfl rfl hb34 ?_
          refine WL.valw (R.mv (v := v8) rfl) ?_
          refine WL.gyes rfl rfl hb34 ?_
          refine WL.valw (R.lenL (α := Str) (xs := r7) (H := H30) R12 rfl Tryz.underlying23) ?_
          refine WL.gyes rfl rfl hb34 ?_
          refine WL.valw (R.gtr rfl rfl) ?_
          refine WL.valw (R.pickT rfl hb34 rfl) ?_
          exact WL.nil ⟨(andT hb34), (by repeat (first | refine agree_upd rfl ?_ | refine agree_upds' rfl ?_ | exact agree_refl)), rfl⟩
        · refine WL.gno rfl rfl hb34 ?_
          refine WL.gno rfl rfl hb34 ?_
          refine WL.gno rfl rfl hb34 ?_
          refine WL.valw (R.pickF rfl hb34 rfl) ?_
          exact WL.nil ⟨(andF hb34), (by repeat (first | refine agree_upd rfl ?_ | refine agree_upds' rfl ?_ | exact agree_refl)), rfl⟩
      · intro us
        refine WL.valw (R.mv (v := (boo ((decide (0 < (r1.length : Int))) && (decide (0 < (r7.length : Int)))))) rfl) ?_
        refine WL.grp 4 [36, 37, 38] 39 (boo (((decide (0 < (r1.length : Int))) && (decide (0 < (r7.length : Int)))) || (decide (1 < (r7.length : Int))))) ?_ ?_
        · rcases boolE ((decide (0 < (r1.length : Int))) && (decide (0 < (r7.length : Int)))) with hb36 | hb36
          · refine WL.gno rfl rfl hb36 ?_
            refine WL.gno rfl rfl hb36 ?_
            refine WL.gno rfl rfl hb36 ?_
            refine WL.valw (R.pickT rfl hb36 rfl) ?_
            exact WL.nil ⟨(orT hb36), (by repeat (first | refine agree_upd rfl ?_ | refine agree_upds' rfl ?_ | exact agree_refl)), rfl⟩
          · refine WL.gyes rfl rfl hb36 ?_
            refine WL.valw (R.mv (v := v8) rfl) ?_
            refine WL.gyes rfl rfl hb36 ?_
            refine WL.valw (R.lenL (α := Str) (xs := r7) (H := H30) R12 rfl Tryz.underlying23) ?_
            refine WL.gyes rfl rfl hb36 ?_
            refine WL.valw (R.gtr rfl rfl) ?_
            refine WL.valw (R.pickF rfl hb36 rfl) ?_
            exact WL.nil ⟨(orF hb36), (by repeat (first | refine agree_upd rfl ?_ | refine agree_upds' rfl ?_ | exact agree_refl)), rfl⟩
        · intro us
          refine WL.nil ?_
          rcases condE h with ⟨hc38, h⟩ | ⟨hc38, h⟩
          · refine WP.condT rfl hc38 ?_
            refine WP.seq ?_
            refine WP.region ?_
            refine WL.valw (R.as (v := (int 0)) rfl) ?_
            refine WL.valw (R.as (v := (int 8)) rfl) ?_
            refine WL.nil ?_
            obtain rfl := Option.some.inj h
            refine WP.ret (Out.two rfl S rfl rfl ?_)
            exact rfl
          · refine WP.condF rfl hc38 ?_
            refine WP.skip ?_
            refine WP.seq ?_
            refine WP.seq ?_
            refine WP.region ?_
            refine WL.valw (R.mv (v := v2) rfl) ?_
            refine WL.valw (R.lenL (α := Str) (xs := r1) (H := H30) R6 rfl Tryz.underlying23) ?_
            refine WL.valw (R.gtr rfl rfl) ?_
            refine WL.nil ?_
            rcases condE h with ⟨hc39, h⟩ | ⟨hc39, h⟩
            · refine WP.condT rfl hc39 ?_
              refine WP.seq ?_
              refine WP.region ?_
              refine WL.valw (R.as (v := (int (-1))) rfl) ?_
              refine WL.valw (R.as (v := (int 0)) rfl) ?_
              refine WL.nil ?_
              obtain rfl := Option.some.inj h
              refine WP.ret (Out.two rfl S rfl rfl ?_)
              exact rfl
            · refine WP.condF rfl hc39 ?_
              refine WP.skip ?_
              refine WP.seq ?_
              refine WP.seq ?_
              refine WP.region ?_
              refine WL.valw (R.mv (v := v8) rfl) ?_
              refine WL.valw (R.lenL (α := Str) (xs := r7) (H := H30) R12 rfl Tryz.underlying23) ?_
              refine WL.valw (R.eql rfl rfl) ?_
              refine WL.nil ?_
              rcases condE h with ⟨hc40, h⟩ | ⟨hc40, h⟩
              · refine WP.condT rfl hc40 ?_
                refine WP.seq ?_
                refine WP.region ?_
                refine WL.valw (R.as (v := (int (-2))) rfl) ?_
                refine WL.valw (R.as (v := (int 0)) rfl) ?_
                refine WL.nil ?_
                obtain rfl := Option.some.inj h
                refine WP.ret (Out.two rfl S rfl rfl ?_)
                exact rfl
              · refine WP.condF rfl hc40 ?_
                refine WP.skip ?_
                refine WP.seq ?_
                refine WP.region ?_
                refine WL.valw (R.mv (v := v8) rfl) ?_
                obtain ⟨x41, hx41, h⟩ := bindE h
                refine W.idx (α := Str) R12 rfl rfl el23 hx41 ?_
                rintro a42 _ hA43 rfl
                refine WL.valw (R.loadH (v := (str x41)) S rfl hA43 lay9 rfl) ?_
                obtain ⟨r44, hr44, h⟩ := bindE h
                refine W.call S rfl (ref01_Number_ok S.holds (hG.post S.post) x41 hr44) ?_
                rintro v45 w46 H47 hle48 S rfl
                have Rp_l := Sl.mono Rp_l hle48
                have R6 := Sl.mono R6 hle48
                have R12 := Sl.mono R12 hle48
                have hA43 := At.mono hA43 hle48 (by simp)
                refine WL.valw (R.mv (v := (.tuple ⟨[(int r44.1), (boo r44.2)]⟩)) rfl) ?_
                refine WL.valw (R.ext rfl rfl) ?_
                refine WL.valw (R.ext rfl rfl) ?_
                refine WL.valw (R.as (v := (int r44.1)) rfl) ?_
                refine WL.valw (R.as (v := (boo r44.2)) rfl) ?_
                refine WL.nil ?_
                refine WP.seq ?_
                refine WP.seq ?_
                refine WP.region ?_
                refine WL.valw (R.mv (v := (boo r44.2)) rfl) ?_
                refine WL.valw (R.not rfl) ?_
                refine WL.valw (R.mv (v := (boo (!r44.2))) rfl) ?_
                obtain ⟨b54, hg50, h⟩ := bindE h
                refine WL.grp 6 [56, 57, 58, 59, 60] 61 (boo b54) ?_ ?_
                · rcases boolE (!r44.2) with hb49 | hb49
                  · replace hg50 := condT hg50 hb49
                    refine WL.gno rfl rfl hb49 ?_
                    refine WL.gno rfl rfl hb49 ?_
                    refine WL.gno rfl rfl hb49 ?_
                    refine WL.gno rfl rfl hb49 ?_
                    refine WL.gno rfl rfl hb49 ?_
                    refine WL.valw (R.pickT rfl hb49 rfl) ?_
                    exact WL.nil ⟨(congrArg boo (Option.some.inj hg50)), (by repeat (first | refine agree_upd rfl ?_ | refine agree_upds' rfl ?_ | exact agree_refl)), rfl⟩
                  · replace hg50 := condF hg50 hb49
                    refine WL.gyes rfl rfl hb49 ?_
                    refine WL.valw (R.mv (v := v8) rfl) ?_
                    refine WL.gyes rfl rfl hb49 ?_
                    obtain ⟨x51, hx51, hg50⟩ := bindE hg50
                    refine W.idx (α := Str) R12 rfl rfl el23 hx51 ?_
                    rintro a52 _ hA53 rfl
                    refine WL.gyes rfl rfl hb49 ?_
                    refine WL.valw (R.loadH (v := (str x51)) S rfl hA53 lay9 rfl) ?_
                    refine WL.gyes rfl rfl hb49 ?_
                    refine WL.valw (R.lenS (a := x51) rfl Tryz.underlying9) ?_
                    refine WL.gyes rfl rfl hb49 ?_
                    refine WL.valw (R.gtr rfl rfl) ?_
                    refine WL.valw (R.pickF rfl hb49 rfl) ?_
                    exact WL.nil ⟨(congrArg boo (Option.some.inj hg50)), (by repeat (first | refine agree_upd rfl ?_ | refine agree_upds' rfl ?_ | exact agree_refl)), rfl⟩
                · intro us
                  refine WL.nil ?_
                  rcases condE h with ⟨hc55, h⟩ | ⟨hc55, h⟩
                  · refine WP.condT rfl hc55 ?_
                    refine WP.seq ?_
                    refine WP.region ?_
                    refine WL.valw (R.as (v := (int 0)) rfl) ?_
                    refine WL.valw (R.as (v := (int 8)) rfl) ?_
                    refine WL.nil ?_
                    obtain rfl := Option.some.inj h
                    refine WP.ret (Out.two rfl S rfl rfl ?_)
                    exact rfl
                  · refine WP.condF rfl hc55 ?_
                    refine WP.skip ?_
                    refine WP.seq ?_
                    refine WP.region ?_
                    refine WL.valw (R.mv (v := (int r44.1)) rfl) ?_
                    refine WL.valw (R.as (v := (int r44.1)) rfl) ?_
                    refine WL.valw (R.as (v := (int 0)) rfl) ?_
                    refine WL.nil ?_
                    obtain rfl := Option.some.inj h
                    refine WP.ret (Out.two rfl S rfl rfl ?_)
                    exact rfl
set_option maxRecDepth 10000 in
set_option maxHeartbeats 4000000 in
theorem ref01_Hex_ok {w0 : World} {H0 : Hp} (hw : Holds w0 H0) (hG : Tryz.Gl w0) (p_c : UInt8) {r : Int} (h : ref01_Hex p_c = some r) :
    Con Tryz.prog 166 [(byt p_c)] w0 H0 (fun H' v => v = (int r)) := by
  refine Con.mk (N := 31) Tryz.func166 rfl rfl (by kernel_rfl) rfl ?_
  have S := St.start hw
  refine WP.seq ?_
  refine WP.region ?_
  refine WL.valw (R.as (v := (int 0)) rfl) ?_
  refine WL.nil ?_
  refine WP.seq ?_
  refine WP.block ?_
  refine WP.seq ?_
  refine WP.region ?_
  refine WL.valw (R.mv (v := (byt p_c)) rfl) ?_
  obtain ⟨r1, hr1, h⟩ := bindE h
  refine W.call S rfl (ref01_Digit_ok S.holds (hG.post S.post) p_c hr1) ?_
  rintro v2 w3 H4 hle5 S rfl
  refine WL.valw (R.as (v := (boo r1)) rfl) ?_
  refine WL.nil ?_
  rcases condE h with ⟨hc6, h⟩ | ⟨hc6, h⟩
  · refine WP.condT rfl hc6 ?_
    refine WP.seq ?_
    refine WP.region ?_
    refine WL.valw (R.mv (v := (byt p_c)) rfl) ?_
    refine WL.valw (R.sub8 (a := p_c) (b := 48) rfl rfl) ?_
    refine WL.valw (R.i64of8 (a := p_c - 48) rfl Tryz.underlying5 Tryz.underlying3) ?_
    refine WL.valw (R.as (v := (int ((p_c - 48).toNat : Int))) rfl) ?_
    refine WL.nil ?_
    obtain rfl := Option.some.inj h
    refine WP.ret (Out.one rfl S rfl ?_)
    exact rfl
  · refine WP.condF rfl hc6 ?_
    refine WP.seq ?_
    refine WP.region ?_
    refine WL.valw (R.mv (v := (byt p_c)) rfl) ?_
    refine WL.valw (R.geq8 (a := p_c) (b := 97) rfl rfl) ?_
    refine WL.valw (R.mv (v := (boo (decide (97 ≤ p_c)))) rfl) ?_
    refine WL.grp 3 [13, 14] 15 (boo ((decide (97 ≤ p_c)) && (decide (p_c ≤ 102)))) ?_ ?_
    · rcases boolE (decide (97 ≤ p_c)) with hb7 | hb7
      · refine WL.gyes rfl rfl hb7 ?_
        refine WL.valw (R.mv (v := (byt p_c)) rfl) ?_
        refine WL.gyes rfl rfl hb7 ?_
        refine WL.valw (R.leq8 (a := p_c) (b := 102) rfl rfl) ?_
        refine WL.valw (R.pickT rfl hb7 rfl) ?_
        exact WL.nil ⟨(andT hb7), (by repeat (first | refine agree_upd rfl ?_ | refine agree_upds' rfl ?_ | exact agree_refl)), rfl⟩
      · refine WL.gno rfl rfl hb7 ?_
        refine WL.gno rfl rfl hb7 ?_
        refine WL.valw (R.pickF rfl hb7 rfl) ?_
        exact WL.nil ⟨(andF hb7), (by repeat (first | refine agree_upd rfl ?_ | refine agree_upds' rfl ?_ | exact agree_refl)), rfl⟩
    · intro us
      refine WL.valw (R.as (v := (boo ((decide (97 ≤ p_c)) && (decide (p_c ≤ 102))))) rfl) ?_
      refine WL.nil ?_
      rcases condE h with ⟨hc9, h⟩ | ⟨hc9, h⟩
      · refine WP.condT rfl hc9 ?_
        refine WP.seq ?_
        refine WP.region ?_
        refine WL.valw (R.mv (v := (byt p_c)) rfl) ?_
        refine WL.valw (R.sub8 (a := p_c) (b := 97) rfl rfl) ?_
        refine WL.valw (R.i64of8 (a := p_c - 97) rfl Tryz.underlying5 Tryz.underlying3) ?_
        refine WL.valw (R.add rfl rfl) ?_
        refine WL.valw (R.as (v := (int (wr (((p_c - 97).toNat : Int) + 10)))) rfl) ?_
        refine WL.nil ?_
        obtain rfl := Option.some.inj h
        refine WP.ret (Out.one rfl S rfl ?_)
        exact rfl
      · refine WP.condF rfl hc9 ?_
        refine WP.seq ?_
        refine WP.region ?_
        refine WL.valw (R.mv (v := (byt p_c)) rfl) ?_
        refine WL.valw (R.geq8 (a := p_c) (b := 65) rfl rfl) ?_
        refine WL.valw (R.mv (v := (boo (decide (65 ≤ p_c)))) rfl) ?_
        refine WL.grp 3 [24, 25] 26 (boo ((decide (65 ≤ p_c)) && (decide (p_c ≤ 70)))) ?_ ?_
        · rcases boolE (decide (65 ≤ p_c)) with hb10 | hb10
          · refine WL.gyes rfl rfl hb10 ?_
            refine WL.valw (R.mv (v := (byt p_c)) rfl) ?_
            refine WL.gyes rfl rfl hb10 ?_
            refine WL.valw (R.leq8 (a := p_c) (b := 70) rfl rfl) ?_
            refine WL.valw (R.pickT rfl hb10 rfl) ?_
            exact WL.nil ⟨(andT hb10), (by repeat (first | refine agree_upd rfl ?_ | refine agree_upds' rfl ?_ | exact agree_refl)), rfl⟩
          · refine WL.gno rfl rfl hb10 ?_
            refine WL.gno rfl rfl hb10 ?_
            refine WL.valw (R.pickF rfl hb10 rfl) ?_
            exact WL.nil ⟨(andF hb10), (by repeat (first | refine agree_upd rfl ?_ | refine agree_upds' rfl ?_ | exact agree_refl)), rfl⟩
        · intro us
          refine WL.valw (R.as (v := (boo ((decide (65 ≤ p_c)) && (decide (p_c ≤ 70))))) rfl) ?_
          refine WL.nil ?_
          rcases condE h with ⟨hc12, h⟩ | ⟨hc12, h⟩
          · refine WP.condT rfl hc12 ?_
            refine WP.seq ?_
            refine WP.region ?_
            refine WL.valw (R.mv (v := (byt p_c)) rfl) ?_
            refine WL.valw (R.sub8 (a := p_c) (b := 65) rfl rfl) ?_
            refine WL.valw (R.i64of8 (a := p_c - 65) rfl Tryz.underlying5 Tryz.underlying3) ?_
            refine WL.valw (R.add rfl rfl) ?_
            refine WL.valw (R.as (v := (int (wr (((p_c - 65).toNat : Int) + 10)))) rfl) ?_
            refine WL.nil ?_
            obtain rfl := Option.some.inj h
            refine WP.ret (Out.one rfl S rfl ?_)
            exact rfl
          · refine WP.condF rfl hc12 ?_
            refine WP.skip ?_
            refine WP.seq ?_
            refine WP.region ?_
            refine WL.valw (R.as (v := (int (-1))) rfl) ?_
            refine WL.nil ?_
            obtain rfl := Option.some.inj h
            refine WP.ret (Out.one rfl S rfl ?_)
            exact rfl
set_option maxRecDepth 10000 in
set_option maxHeartbeats 4000000 in
theorem ref01_size_ok {w0 : World} {H0 : Hp} (hw : Holds w0 H0) (hG : Tryz.Gl w0) (p_line : Str) {r : (Int × Bool)} (h : ref01_size p_line = some r) :
    Con Tryz.prog 125 [(str p_line)] w0 H0 (fun H' v => v = (.tuple ⟨[(int r.1), (boo r.2)]⟩)) := by
  refine Con.mk (N := 58) Tryz.func125 rfl rfl (by kernel_rfl) rfl ?_
  have S := St.start hw
  refine WP.seq ?_
  refine WP.region ?_
  refine WL.valw (R.as (v := (int 0)) rfl) ?_
  refine WL.valw (R.as (v := (boo false)) rfl) ?_
  refine WL.nil ?_
  refine WP.seq ?_
  refine WP.region ?_
  refine WL.valw (R.as (v := (int 0)) rfl) ?_
  refine WL.valw (R.as (v := (int 0)) rfl) ?_
  refine WL.nil ?_
  refine WP.seq ?_
  obtain ⟨k_9, hr15, h⟩ := bindE h
  refine WP.cut (fun f w => ∃ (H6 : Hp), f 0 = (str p_line) ∧ f 4 = (int 0) ∧ f 5 = (int k_9) ∧ St w0 H0 w H6 []) ?_ ?_
  · refine WP.block ?_
    refine WP.loopM (ref01_size_L0 p_line) (fun s f w => match s with | k_4 => ∃ (H1 : Hp), f 0 = (str p_line) ∧ f 4 = (int 0) ∧ f 5 = (int k_4) ∧ St w0 H0 w H1 []) 0 k_9 hr15 ?_ ?_
    · exact ⟨H0, rfl, rfl, rfl, S⟩
    · intro k_4 f w hI y11 hy12 hy13
      obtain ⟨H1, h2, h3, h5, S⟩ := hI
      refine WP.seq ?_
      refine WP.seq ?_
      refine WP.region ?_
      refine WL.valw (R.mv (v := (int k_4)) h5) ?_
      refine WL.valw (R.mv (v := (str p_line)) h2) ?_
      refine WL.valw (R.lenS (a := p_line) rfl Tryz.underlying9) ?_
      refine WL.valw (R.lss rfl rfl) ?_
      refine WL.valw (R.mv (v := (boo (decide (k_4 < (p_line.length : Int))))) rfl) ?_
      obtain ⟨b24, hg17, hy12⟩ := bindE hy12
      refine WL.grpw 6 [12, 13, 14, 15, 16] 17 (boo b24) (fun w => ∃ H' : Hp, H1.le H' ∧ St w0 H0 w H' []) ?_ ?_
      · rcases boolE (decide (k_4 < (p_line.length : Int))) with hb16 | hb16
        · replace hg17 := condT hg17 hb16
          refine WL.gyes rfl rfl hb16 ?_
          refine WL.valw (R.mv (v := (str p_line)) h2) ?_
          refine WL.gyes rfl rfl hb16 ?_
          refine WL.valw (R.mv (v := (int k_4)) h5) ?_
          refine WL.gyes rfl rfl hb16 ?_
          obtain ⟨c18, hc18, hg17⟩ := bindE hg17
          refine WL.valw (R.idxS rfl rfl Tryz.underlying9 hc18) ?_
          refine WL.gyes rfl rfl hb16 ?_
          obtain ⟨r19, hr19, hg17⟩ := bindE hg17
          refine W.call S rfl (ref01_Hex_ok S.holds (hG.post S.post) c18 hr19) ?_
          rintro v20 w21 H22 hle23 S rfl
          refine WL.gyes rfl rfl hb16 ?_
          refine WL.valw (R.geq rfl rfl) ?_
          refine WL.valw (R.pickT rfl hb16 rfl) ?_
          exact WL.nil ⟨(congrArg boo (Option.some.inj hg17)), (by repeat (first | refine agree_upd rfl ?_ | refine agree_upds' rfl ?_ | exact agree_refl)), ⟨H22, hle23, S⟩⟩
        · replace hg17 := condF hg17 hb16
          refine WL.gno rfl rfl hb16 ?_
          refine WL.gno rfl rfl hb16 ?_
          refine WL.gno rfl rfl hb16 ?_
          refine WL.gno rfl rfl hb16 ?_
          refine WL.gno rfl rfl hb16 ?_
          refine WL.valw (R.pickF rfl hb16 rfl) ?_
          exact WL.nil ⟨(congrArg boo (Option.some.inj hg17)), (by repeat (first | refine agree_upd rfl ?_ | refine agree_upds' rfl ?_ | exact agree_refl)), ⟨H1, (Hp.le.refl _), S⟩⟩
      · intro us w26 ⟨H25, hle27, S⟩
        refine WL.nil ?_
        rcases condE hy12 with ⟨hc28, hy12⟩ | ⟨hc28, hy12⟩
        · refine WP.condT rfl hc28 ?_
          refine WP.skip ?_
          refine WP.block ?_
          refine WP.region ?_
          refine WL.valw (R.mv (v := (int k_4)) h5) ?_
          refine WL.valw (R.add rfl rfl) ?_
          refine WL.valw (R.as (v := (int (wr (k_4 + 1)))) rfl) ?_
          refine WL.nil ?_
          obtain rfl := Option.some.inj hy12
          exact ⟨rfl, ⟨H25, h2, h3, rfl, S⟩⟩
        · refine WP.condF rfl hc28 ?_
          refine WP.exit ?_
          obtain rfl := Option.some.inj hy12
          obtain rfl := hy13
          exact ⟨H25, h2, h3, h5, S⟩
  · rintro f w ⟨H6, h7, h8, h10, S⟩
    refine WP.seq ?_
    refine WP.seq ?_
    refine WP.region ?_
    refine WL.valw (R.mv (v := (int k_9)) h10) ?_
    refine WL.valw (R.lss rfl rfl) ?_
    refine WL.valw (R.mv (v := (boo (decide (k_9 < 1)))) rfl) ?_
    refine WL.grp 3 [23, 24] 25 (boo ((decide (k_9 < 1)) || (decide (8 < k_9)))) ?_ ?_
    · rcases boolE (decide (k_9 < 1)) with hb29 | hb29
      · refine WL.gno rfl rfl hb29 ?_
        refine WL.gno rfl rfl hb29 ?_
        refine WL.valw (R.pickT rfl hb29 rfl) ?_
        exact WL.nil ⟨(orT hb29), (by repeat (first | refine agree_upd rfl ?_ | refine agree_upds' rfl ?_ | exact agree_refl)), rfl⟩
      · refine WL.gyes rfl rfl hb29 ?_
        refine WL.valw (R.mv (v := (int k_9)) h10) ?_
        refine WL.gyes rfl rfl hb29 ?_
        refine WL.valw (R.gtr rfl rfl) ?_
        refine WL.valw (R.pickF rfl hb29 rfl) ?_
        exact WL.nil ⟨(orF hb29), (by repeat (first | refine agree_upd rfl ?_ | refine agree_upds' rfl ?_ | exact agree_refl)), rfl⟩
    · intro us
      refine WL.valw (R.mv (v := (boo ((decide (k_9 < 1)) || (decide (8 < k_9))))) rfl) ?_
      obtain ⟨b37, hg32, h⟩ := bindE h
      refine WL.grp 11 [27, 28, 29, 30, 31, 32, 33, 34, 35, 36] 37 (boo b37) ?_ ?_
      · rcases boolE ((decide (k_9 < 1)) || (decide (8 < k_9))) with hb31 | hb31
        · replace hg32 := condT hg32 hb31
          refine WL.gno rfl rfl hb31 ?_
          refine WL.gno rfl rfl hb31 ?_
          refine WL.gno rfl rfl hb31 ?_
          refine WL.gno rfl rfl hb31 ?_
          refine WL.gno rfl rfl hb31 ?_
          refine WL.gund rfl rfl ?_
          refine WL.gund rfl rfl ?_
          refine WL.gund rfl rfl ?_
          refine WL.gund rfl rfl ?_
          refine WL.gno rfl rfl hb31 ?_
          refine WL.valw (R.pickT rfl hb31 rfl) ?_
          exact WL.nil ⟨(congrArg boo (Option.some.inj hg32)), (by repeat (first | refine agree_upd rfl ?_ | refine agree_upds' rfl ?_ | exact agree_refl)), rfl⟩
        · replace hg32 := condF hg32 hb31
          refine WL.gyes rfl rfl hb31 ?_
          refine WL.valw (R.mv (v := (int k_9)) h10) ?_
          refine WL.gyes rfl rfl hb31 ?_
          refine WL.valw (R.mv (v := (str p_line)) h7) ?_
          refine WL.gyes rfl rfl hb31 ?_
          refine WL.valw (R.lenS (a := p_line) rfl Tryz.underlying9) ?_
          refine WL.gyes rfl rfl hb31 ?_
          refine WL.valw (R.lss rfl rfl) ?_
          refine WL.gyes rfl rfl hb31 ?_
          refine WL.valw (R.mv (v := (boo (decide (k_9 < (p_line.length : Int))))) rfl) ?_
          obtain ⟨b36, hg34, hg32⟩ := bindE hg32
          refine WL.grp 5 [32, 33, 34, 35] 36 (boo b36) ?_ ?_
          · rcases boolE (decide (k_9 < (p_line.length : Int))) with hb33 | hb33
            · replace hg34 := condT hg34 hb33
              refine WL.gyes rfl rfl hb33 ?_
              refine WL.valw (R.mv (v := (str p_line)) h7) ?_
              refine WL.gyes rfl rfl hb33 ?_
              refine WL.valw (R.mv (v := (int k_9)) h10) ?_
              refine WL.gyes rfl rfl hb33 ?_
              obtain ⟨c35, hc35, hg34⟩ := bindE hg34
              refine WL.valw (R.idxS rfl rfl Tryz.underlying9 hc35) ?_
              refine WL.gyes rfl rfl hb33 ?_
              refine WL.valw (R.neq8 (a := c35) (b := 59) rfl rfl) ?_
              refine WL.gyes rfl rfl hb31 ?_
              refine WL.valw (R.pickT rfl hb33 rfl) ?_
              exact WL.nil ⟨(congrArg boo (Option.some.inj hg34)), (by repeat (first | refine agree_upd rfl ?_ | refine agree_upds' rfl ?_ | exact agree_refl)), rfl⟩
            · replace hg34 := condF hg34 hb33
              refine WL.gno rfl rfl hb33 ?_
              refine WL.gno rfl rfl hb33 ?_
              refine WL.gno rfl rfl hb33 ?_
              refine WL.gno rfl rfl hb33 ?_
              refine WL.gyes rfl rfl hb31 ?_
              refine WL.valw (R.pickF rfl hb33 rfl) ?_
              exact WL.nil ⟨(congrArg boo (Option.some.inj hg34)), (by repeat (first | refine agree_upd rfl ?_ | refine agree_upds' rfl ?_ | exact agree_refl)), rfl⟩
          · intro us
            refine WL.valw (R.pickF rfl hb31 rfl) ?_
            exact WL.nil ⟨(congrArg boo (Option.some.inj hg32)), (by repeat (first | refine agree_upd rfl ?_ | refine agree_upds' rfl ?_ | exact agree_refl)), rfl⟩
      · intro us
        refine WL.valw (R.mv (v := (boo b37)) rfl) ?_
        obtain ⟨b46, hg39, h⟩ := bindE h
        refine WL.grpw 6 [39, 40, 41, 42, 43] 44 (boo b46) (fun w => ∃ H' : Hp, H6.le H' ∧ St w0 H0 w H' []) ?_ ?_
        · rcases boolE b37 with hb38 | hb38
          · replace hg39 := condT hg39 hb38
            refine WL.gno rfl rfl hb38 ?_
            refine WL.gno rfl rfl hb38 ?_
            refine WL.gno rfl rfl hb38 ?_
            refine WL.gno rfl rfl hb38 ?_
            refine WL.gno rfl rfl hb38 ?_
            refine WL.valw (R.pickT rfl hb38 rfl) ?_
            exact WL.nil ⟨(congrArg boo (Option.some.inj hg39)), (by repeat (first | refine agree_upd rfl ?_ | refine agree_upds' rfl ?_ | exact agree_refl)), ⟨H6, (Hp.le.refl _), S⟩⟩
          · replace hg39 := condF hg39 hb38
            refine WL.gyes rfl rfl hb38 ?_
            refine WL.valw (R.mv (v := (str p_line)) h7) ?_
            refine WL.gyes rfl rfl hb38 ?_
            refine WL.valw (R.mv (v := (int k_9)) h10) ?_
            refine WL.gyes rfl rfl hb38 ?_
            obtain ⟨s40, hs40, hg39⟩ := bindE hg39
            refine WL.valw (R.subSlo rfl rfl Tryz.underlying9 hs40) ?_
            refine WL.gyes rfl rfl hb38 ?_
            obtain ⟨r41, hr41, hg39⟩ := bindE hg39
            refine W.call S rfl (ref01_Text_ok S.holds (hG.post S.post) s40 hr41) ?_
            rintro v42 w43 H44 hle45 S rfl
            refine WL.gyes rfl rfl hb38 ?_
            refine WL.valw (R.not rfl) ?_
            refine WL.valw (R.pickF rfl hb38 rfl) ?_
            exact WL.nil ⟨(congrArg boo (Option.some.inj hg39)), (by repeat (first | refine agree_upd rfl ?_ | refine agree_upds' rfl ?_ | exact agree_refl)), ⟨H44, hle45, S⟩⟩
        · intro us w48 ⟨H47, hle49, S⟩
          refine WL.nil ?_
          rcases condE h with ⟨hc50, h⟩ | ⟨hc50, h⟩
          · refine WP.condT rfl hc50 ?_
            refine WP.seq ?_
            refine WP.region ?_
            refine WL.valw (R.as (v := (int 0)) rfl) ?_
            refine WL.valw (R.as (v := (boo false)) rfl) ?_
            refine WL.nil ?_
            obtain rfl := Option.some.inj h
            refine WP.ret (Out.two rfl S rfl rfl ?_)
            exact rfl
          · refine WP.condF rfl hc50 ?_
            refine WP.skip ?_
            refine WP.seq ?_
            refine WP.seq ?_
            refine WP.region ?_
            refine WL.valw (R.as (v := (int 0)) rfl) ?_
            refine WL.nil ?_
            obtain ⟨n_59, hr65, h⟩ := bindE h
            refine WP.cut (fun f w => ∃ (H58 : Hp), f 4 = (int n_59) ∧ St w0 H0 w H58 []) ?_ ?_
            · refine WP.block ?_
              refine WP.loopM (ref01_size_L1 p_line k_9) (fun s f w => match s with | (n_53, i_56) => ∃ (H51 : Hp), f 0 = (str p_line) ∧ f 4 = (int n_53) ∧ f 5 = (int k_9) ∧ f 6 = (int i_56) ∧ St w0 H0 w H51 []) (0, 0) n_59 hr65 ?_ ?_
              · exact ⟨H47, h7, h8, h10, rfl, S⟩
              · intro s f w hI y61 hy62 hy63
                obtain ⟨n_53, i_56⟩ := s
                obtain ⟨H51, h52, h54, h55, h57, S⟩ := hI
                refine WP.seq ?_
                refine WP.seq ?_
                refine WP.region ?_
                refine WL.valw (R.mv (v := (int i_56)) h57) ?_
                refine WL.valw (R.mv (v := (int k_9)) h55) ?_
                refine WL.valw (R.lss rfl rfl) ?_
                refine WL.nil ?_
                rcases condE hy62 with ⟨hc66, hy62⟩ | ⟨hc66, hy62⟩
                · refine WP.condT rfl hc66 ?_
                  refine WP.skip ?_
                  refine WP.seq ?_
                  refine WP.block ?_
                  refine WP.region ?_
                  refine WL.valw (R.mv (v := (int n_53)) h54) ?_
                  refine WL.valw (R.mul rfl rfl) ?_
                  refine WL.valw (R.mv (v := (str p_line)) h52) ?_
                  refine WL.valw (R.mv (v := (int i_56)) h57) ?_
                  obtain ⟨c67, hc67, hy62⟩ := bindE hy62
                  refine WL.valw (R.idxS rfl rfl Tryz.underlying9 hc67) ?_
                  obtain ⟨r68, hr68, hy62⟩ := bindE hy62
                  refine W.call S rfl (ref01_Hex_ok S.holds (hG.post S.post) c67 hr68) ?_
                  rintro v69 w70 H71 hle72 S rfl
                  refine WL.valw (R.add rfl rfl) ?_
                  refine WL.valw (R.as (v := (int (wr ((wr (n_53 * 16)) + r68)))) rfl) ?_
                  refine WL.nil ?_
                  refine WP.region ?_
                  refine WL.valw (R.mv (v := (int i_56)) h57) ?_
                  refine WL.valw (R.add rfl rfl) ?_
                  refine WL.valw (R.as (v := (int (wr (i_56 + 1)))) rfl) ?_
                  refine WL.nil ?_
                  obtain rfl := Option.some.inj hy62
                  exact ⟨rfl, ⟨H71, h52, rfl, h55, rfl, S⟩⟩
                · refine WP.condF rfl hc66 ?_
                  refine WP.exit ?_
                  obtain rfl := Option.some.inj hy62
                  obtain rfl := hy63
                  exact ⟨H51, h54, S⟩
            · rintro f w ⟨H58, h60, S⟩
              refine WP.seq ?_
              refine WP.region ?_
              refine WL.valw (R.mv (v := (int n_59)) h60) ?_
              refine WL.valw (R.as (v := (int n_59)) rfl) ?_
              refine WL.valw (R.as (v := (boo true)) rfl) ?_
              refine WL.nil ?_
              obtain rfl := Option.some.inj h
              refine WP.ret (Out.two rfl S rfl rfl ?_)
              exact rfl
end Go.Proofs
