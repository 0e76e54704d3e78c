/- A part of the proof of laws of the seat: written by program over the translation. -/
import Derived.Test.YtogfdiigokidaaaGreatDoorGenH5
namespace Go.Proofs
open Go.Eng Go.Eng.Pure
set_option linter.unusedVariables false
set_option maxRecDepth 10000 in
set_option maxHeartbeats 4000000 in
theorem strings_trimRightByte_ok {w0 : World} {H0 : Hp} (hw : Holds w0 H0) (hG : Tryz.Gl w0) (p_s : Str) (p_c : UInt8) {r : Str} (h : strings_trimRightByte p_s p_c = some r) :
    Con Tryz.prog 231 [(str p_s), (byt p_c)] w0 H0 (fun H' v => v = (str r)) := by
  refine Con.mk (N := 23) Tryz.func231 rfl rfl (by kernel_rfl) rfl ?_
  have S := St.start hw
  refine WP.seq ?_
  refine WP.region ?_
  refine WL.valw (R.as (v := (str [])) rfl) ?_
  refine WL.nil ?_
  refine WP.seq ?_
  obtain ⟨s_6, hr12, h⟩ := bindE h
  refine WP.cut (fun f w => ∃ (H5 : Hp), f 0 = (str s_6) ∧ St w0 H0 w H5 []) ?_ ?_
  · refine WP.block ?_
    refine WP.loopM (strings_trimRightByte_L0 p_c) (fun s f w => match s with | s_2 => ∃ (H1 : Hp), f 0 = (str s_2) ∧ f 1 = (byt p_c) ∧ St w0 H0 w H1 []) p_s s_6 hr12 ?_ ?_
    · exact ⟨H0, rfl, rfl, S⟩
    · intro s_2 f w hI y8 hy9 hy10
      obtain ⟨H1, h3, h4, S⟩ := hI
      refine WP.seq ?_
      refine WP.seq ?_
      refine WP.region ?_
      refine WL.valw (R.mv (v := (str s_2)) h3) ?_
      refine WL.valw (R.lenS (a := s_2) rfl Tryz.underlying9) ?_
      refine WL.valw (R.gtr rfl rfl) ?_
      refine WL.valw (R.mv (v := (boo (decide (0 < (s_2.length : Int))))) rfl) ?_
      obtain ⟨b16, hg14, hy9⟩ := bindE hy9
      refine WL.grp 8 [9, 10, 11, 12, 13, 14, 15] 16 (boo b16) ?_ ?_
      · rcases boolE (decide (0 < (s_2.length : Int))) with hb13 | hb13
        · replace hg14 := condT hg14 hb13
          refine WL.gyes rfl rfl hb13 ?_
          refine WL.valw (R.mv (v := (str s_2)) h3) ?_
          refine WL.gyes rfl rfl hb13 ?_
          refine WL.valw (R.mv (v := (str s_2)) h3) ?_
          refine WL.gyes rfl rfl hb13 ?_
          refine WL.valw (R.lenS (a := s_2) rfl Tryz.underlying9) ?_
          refine WL.gyes rfl rfl hb13 ?_
          refine WL.valw (R.sub rfl rfl) ?_
          refine WL.gyes rfl rfl hb13 ?_
          obtain ⟨c15, hc15, hg14⟩ := bindE hg14
          refine WL.valw (R.idxS rfl rfl Tryz.underlying9 hc15) ?_
          refine WL.gyes rfl rfl hb13 ?_
          refine WL.valw (R.mv (v := (byt p_c)) h4) ?_
          refine WL.gyes rfl rfl hb13 ?_
          refine WL.valw (R.eql8 (a := c15) (b := p_c) rfl rfl) ?_
          refine WL.valw (R.pickT rfl hb13 rfl) ?_
          exact WL.nil ⟨(congrArg boo (Option.some.inj hg14)), (by repeat (first | refine agree_upd rfl ?_ | refine agree_upds' rfl ?_ | exact agree_refl)), rfl⟩
        · replace hg14 := condF hg14 hb13
          refine WL.gno rfl rfl hb13 ?_
          refine WL.gno rfl rfl hb13 ?_
          refine WL.gno rfl rfl hb13 ?_
          refine WL.gno rfl rfl hb13 ?_
          refine WL.gno rfl rfl hb13 ?_
          refine WL.gno rfl rfl hb13 ?_
          refine WL.gno rfl rfl hb13 ?_
          refine WL.valw (R.pickF rfl hb13 rfl) ?_
          exact WL.nil ⟨(congrArg boo (Option.some.inj hg14)), (by repeat (first | refine agree_upd rfl ?_ | refine agree_upds' rfl ?_ | exact agree_refl)), rfl⟩
      · intro us
        refine WL.nil ?_
        rcases condE hy9 with ⟨hc17, hy9⟩ | ⟨hc17, hy9⟩
        · refine WP.condT rfl hc17 ?_
          refine WP.skip ?_
          refine WP.block ?_
          refine WP.region ?_
          refine WL.valw (R.mv (v := (str s_2)) h3) ?_
          refine WL.valw (R.mv (v := (str s_2)) h3) ?_
          refine WL.valw (R.lenS (a := s_2) rfl Tryz.underlying9) ?_
          refine WL.valw (R.sub rfl rfl) ?_
          obtain ⟨s18, hs18, hy9⟩ := bindE hy9
          refine WL.valw (R.subShi rfl rfl Tryz.underlying9 hs18) ?_
          refine WL.valw (R.as (v := (str s18)) rfl) ?_
          refine WL.nil ?_
          obtain rfl := Option.some.inj hy9
          exact ⟨rfl, ⟨H1, rfl, h4, S⟩⟩
        · refine WP.condF rfl hc17 ?_
          refine WP.exit ?_
          obtain rfl := Option.some.inj hy9
          obtain rfl := hy10
          exact ⟨H1, h3, S⟩
  · rintro f w ⟨H5, h7, S⟩
    refine WP.seq ?_
    refine WP.region ?_
    refine WL.valw (R.mv (v := (str s_6)) h7) ?_
    refine WL.valw (R.as (v := (str s_6)) rfl) ?_
    refine WL.nil ?_
    obtain rfl := Option.some.inj h
    refine WP.ret (Out.one rfl S rfl ?_)
    exact rfl
set_option maxRecDepth 10000 in
set_option maxHeartbeats 4000000 in
theorem strings_trimLeftByte_ok {w0 : World} {H0 : Hp} (hw : Holds w0 H0) (hG : Tryz.Gl w0) (p_s : Str) (p_c : UInt8) {r : Str} (h : strings_trimLeftByte p_s p_c = some r) :
    Con Tryz.prog 173 [(str p_s), (byt p_c)] w0 H0 (fun H' v => v = (str r)) := by
  refine Con.mk (N := 17) Tryz.func173 rfl rfl (by kernel_rfl) rfl ?_
  have S := St.start hw
  refine WP.seq ?_
  refine WP.region ?_
  refine WL.valw (R.as (v := (str [])) rfl) ?_
  refine WL.nil ?_
  refine WP.seq ?_
  obtain ⟨s_6, hr12, h⟩ := bindE h
  refine WP.cut (fun f w => ∃ (H5 : Hp), f 0 = (str s_6) ∧ St w0 H0 w H5 []) ?_ ?_
  · refine WP.block ?_
    refine WP.loopM (strings_trimLeftByte_L0 p_c) (fun s f w => match s with | s_2 => ∃ (H1 : Hp), f 0 = (str s_2) ∧ f 1 = (byt p_c) ∧ St w0 H0 w H1 []) p_s s_6 hr12 ?_ ?_
    · exact ⟨H0, rfl, rfl, S⟩
    · intro s_2 f w hI y8 hy9 hy10
      obtain ⟨H1, h3, h4, S⟩ := hI
      refine WP.seq ?_
      refine WP.seq ?_
      refine WP.region ?_
      refine WL.valw (R.mv (v := (str s_2)) h3) ?_
      refine WL.valw (R.lenS (a := s_2) rfl Tryz.underlying9) ?_
      refine WL.valw (R.gtr rfl rfl) ?_
      refine WL.valw (R.mv (v := (boo (decide (0 < (s_2.length : Int))))) rfl) ?_
      obtain ⟨b16, hg14, hy9⟩ := bindE hy9
      refine WL.grp 5 [9, 10, 11, 12] 13 (boo b16) ?_ ?_
      · rcases boolE (decide (0 < (s_2.length : Int))) with hb13 | hb13
        · replace hg14 := condT hg14 hb13
          refine WL.gyes rfl rfl hb13 ?_
          refine WL.valw (R.mv (v := (str s_2)) h3) ?_
          refine WL.gyes rfl rfl hb13 ?_
          obtain ⟨c15, hc15, hg14⟩ := bindE hg14
          refine WL.valw (R.idxS rfl rfl Tryz.underlying9 hc15) ?_
          refine WL.gyes rfl rfl hb13 ?_
          refine WL.valw (R.mv (v := (byt p_c)) h4) ?_
          refine WL.gyes rfl rfl hb13 ?_
          refine WL.valw (R.eql8 (a := c15) (b := p_c) rfl rfl) ?_
          refine WL.valw (R.pickT rfl hb13 rfl) ?_
          exact WL.nil ⟨(congrArg boo (Option.some.inj hg14)), (by repeat (first | refine agree_upd rfl ?_ | refine agree_upds' rfl ?_ | exact agree_refl)), rfl⟩
        · replace hg14 := condF hg14 hb13
          refine WL.gno rfl rfl hb13 ?_
          refine WL.gno rfl rfl hb13 ?_
          refine WL.gno rfl rfl hb13 ?_
          refine WL.gno rfl rfl hb13 ?_
          refine WL.valw (R.pickF rfl hb13 rfl) ?_
          exact WL.nil ⟨(congrArg boo (Option.some.inj hg14)), (by repeat (first | refine agree_upd rfl ?_ | refine agree_upds' rfl ?_ | exact agree_refl)), rfl⟩
      · intro us
        refine WL.nil ?_
        rcases condE hy9 with ⟨hc17, hy9⟩ | ⟨hc17, hy9⟩
        · refine WP.condT rfl hc17 ?_
          refine WP.skip ?_
          refine WP.block ?_
          refine WP.region ?_
          refine WL.valw (R.mv (v := (str s_2)) h3) ?_
          obtain ⟨s18, hs18, hy9⟩ := bindE hy9
          refine WL.valw (R.subSlo rfl rfl Tryz.underlying9 hs18) ?_
          refine WL.valw (R.as (v := (str s18)) rfl) ?_
          refine WL.nil ?_
          obtain rfl := Option.some.inj hy9
          exact ⟨rfl, ⟨H1, rfl, h4, S⟩⟩
        · refine WP.condF rfl hc17 ?_
          refine WP.exit ?_
          obtain rfl := Option.some.inj hy9
          obtain rfl := hy10
          exact ⟨H1, h3, S⟩
  · rintro f w ⟨H5, h7, S⟩
    refine WP.seq ?_
    refine WP.region ?_
    refine WL.valw (R.mv (v := (str s_6)) h7) ?_
    refine WL.valw (R.as (v := (str s_6)) rfl) ?_
    refine WL.nil ?_
    obtain rfl := Option.some.inj h
    refine WP.ret (Out.one rfl S rfl ?_)
    exact rfl
set_option maxRecDepth 10000 in
set_option maxHeartbeats 4000000 in
theorem strings_trimRightASCII_ok {w0 : World} {H0 : Hp} (hw : Holds w0 H0) (hG : Tryz.Gl w0) (p_s : Str) (p_as : Str) {bp_as : Nat} (Ap_as : At H0 ⟨bp_as, 0, none⟩ (setc p_as)) {r : Str} (h : strings_trimRightASCII p_s p_as = some r) :
    Con Tryz.prog 232 [(str p_s), (ptr bp_as 0)] w0 H0 (fun H' v => v = (str r)) := by
  refine Con.mk (N := 22) Tryz.func232 rfl rfl (by kernel_rfl) rfl ?_
  have S := St.start hw
  refine WP.seq ?_
  refine WP.region ?_
  refine WL.valw (R.as (v := (str [])) rfl) ?_
  refine WL.nil ?_
  refine WP.seq ?_
  obtain ⟨s_6, hr12, h⟩ := bindE h
  refine WP.cut (fun f w => ∃ (H5 : Hp), f 0 = (str s_6) ∧ St w0 H0 w H5 []) ?_ ?_
  · refine WP.block ?_
    refine WP.loopM (strings_trimRightASCII_L0 p_as) (fun s f w => match s with | s_2 => ∃ (H1 : Hp), f 0 = (str s_2) ∧ f 1 = (ptr bp_as 0) ∧ At H1 ⟨bp_as, 0, none⟩ (setc p_as) ∧ St w0 H0 w H1 []) p_s s_6 hr12 ?_ ?_
    · exact ⟨H0, rfl, rfl, Ap_as, S⟩
    · intro s_2 f w hI y8 hy9 hy10
      obtain ⟨H1, h3, h4, Ap_as, S⟩ := hI
      refine WP.seq ?_
      refine WP.seq ?_
      refine WP.region ?_
      refine WL.valw (R.mv (v := (str s_2)) h3) ?_
      refine WL.valw (R.lenS (a := s_2) rfl Tryz.underlying9) ?_
      refine WL.valw (R.gtr rfl rfl) ?_
      refine WL.nil ?_
      rcases condE hy9 with ⟨hc13, hy9⟩ | ⟨hc13, hy9⟩
      · refine WP.condT rfl hc13 ?_
        refine WP.skip ?_
        refine WP.block ?_
        refine WP.seq ?_
        refine WP.seq ?_
        refine WP.region ?_
        refine WL.valw (R.mv (v := (ptr bp_as 0)) h4) ?_
        refine WL.valw (R.mv (v := (str s_2)) h3) ?_
        refine WL.valw (R.mv (v := (str s_2)) h3) ?_
        refine WL.valw (R.lenS (a := s_2) rfl Tryz.underlying9) ?_
        refine WL.valw (R.sub rfl rfl) ?_
        obtain ⟨c14, hc14, hy9⟩ := bindE hy9
        refine WL.valw (R.idxS rfl rfl Tryz.underlying9 hc14) ?_
        obtain ⟨r15, hr15, hy9⟩ := bindE hy9
        refine W.call S rfl (strings_asciiSet_contains_ok S.holds p_as c14 Ap_as hr15) ?_
        rintro v16 w17 H18 hle19 S rfl
        have Ap_as := At.mono Ap_as hle19 (by intro h; have := congrArg List.length h; rw [setc_len] at this; cases this)
        refine WL.valw (R.not rfl) ?_
        refine WL.nil ?_
        rcases condE hy9 with ⟨hc20, hy9⟩ | ⟨hc20, hy9⟩
        · refine WP.condT rfl hc20 ?_
          refine WP.exit ?_
          obtain rfl := Option.some.inj hy9
          obtain rfl := hy10
          exact ⟨H18, h3, S⟩
        · refine WP.condF rfl hc20 ?_
          refine WP.skip ?_
          refine WP.region ?_
          refine WL.valw (R.mv (v := (str s_2)) h3) ?_
          refine WL.valw (R.mv (v := (str s_2)) h3) ?_
          refine WL.valw (R.lenS (a := s_2) rfl Tryz.underlying9) ?_
          refine WL.valw (R.sub rfl rfl) ?_
          obtain ⟨s21, hs21, hy9⟩ := bindE hy9
          refine WL.valw (R.subShi rfl rfl Tryz.underlying9 hs21) ?_
          refine WL.valw (R.as (v := (str s21)) rfl) ?_
          refine WL.nil ?_
          obtain rfl := Option.some.inj hy9
          exact ⟨rfl, ⟨H18, rfl, h4, Ap_as, S⟩⟩
      · refine WP.condF rfl hc13 ?_
        refine WP.exit ?_
        obtain rfl := Option.some.inj hy9
        obtain rfl := hy10
        exact ⟨H1, h3, S⟩
  · rintro f w ⟨H5, h7, S⟩
    refine WP.seq ?_
    refine WP.region ?_
    refine WL.valw (R.mv (v := (str s_6)) h7) ?_
    refine WL.valw (R.as (v := (str s_6)) rfl) ?_
    refine WL.nil ?_
    obtain rfl := Option.some.inj h
    refine WP.ret (Out.one rfl S rfl ?_)
    exact rfl
set_option maxRecDepth 10000 in
set_option maxHeartbeats 4000000 in
theorem strings_trimLeftASCII_ok {w0 : World} {H0 : Hp} (hw : Holds w0 H0) (hG : Tryz.Gl w0) (p_s : Str) (p_as : Str) {bp_as : Nat} (Ap_as : At H0 ⟨bp_as, 0, none⟩ (setc p_as)) {r : Str} (h : strings_trimLeftASCII p_s p_as = some r) :
    Con Tryz.prog 175 [(str p_s), (ptr bp_as 0)] w0 H0 (fun H' v => v = (str r)) := by
  refine Con.mk (N := 16) Tryz.func175 rfl rfl (by kernel_rfl) rfl ?_
  have S := St.start hw
  refine WP.seq ?_
  refine WP.region ?_
  refine WL.valw (R.as (v := (str [])) rfl) ?_
  refine WL.nil ?_
  refine WP.seq ?_
  obtain ⟨s_6, hr12, h⟩ := bindE h
  refine WP.cut (fun f w => ∃ (H5 : Hp), f 0 = (str s_6) ∧ St w0 H0 w H5 []) ?_ ?_
  · refine WP.block ?_
    refine WP.loopM (strings_trimLeftASCII_L0 p_as) (fun s f w => match s with | s_2 => ∃ (H1 : Hp), f 0 = (str s_2) ∧ f 1 = (ptr bp_as 0) ∧ At H1 ⟨bp_as, 0, none⟩ (setc p_as) ∧ St w0 H0 w H1 []) p_s s_6 hr12 ?_ ?_
    · exact ⟨H0, rfl, rfl, Ap_as, S⟩
    · intro s_2 f w hI y8 hy9 hy10
      obtain ⟨H1, h3, h4, Ap_as, S⟩ := hI
      refine WP.seq ?_
      refine WP.seq ?_
      refine WP.region ?_
      refine WL.valw (R.mv (v := (str s_2)) h3) ?_
      refine WL.valw (R.lenS (a := s_2) rfl Tryz.underlying9) ?_
      refine WL.valw (R.gtr rfl rfl) ?_
      refine WL.nil ?_
      rcases condE hy9 with ⟨hc13, hy9⟩ | ⟨hc13, hy9⟩
      · refine WP.condT rfl hc13 ?_
        refine WP.skip ?_
        refine WP.block ?_
        refine WP.seq ?_
        refine WP.seq ?_
        refine WP.region ?_
        refine WL.valw (R.mv (v := (ptr bp_as 0)) h4) ?_
        refine WL.valw (R.mv (v := (str s_2)) h3) ?_
        obtain ⟨c14, hc14, hy9⟩ := bindE hy9
        refine WL.valw (R.idxS rfl rfl Tryz.underlying9 hc14) ?_
        obtain ⟨r15, hr15, hy9⟩ := bindE hy9
        refine W.call S rfl (strings_asciiSet_contains_ok S.holds p_as c14 Ap_as hr15) ?_
        rintro v16 w17 H18 hle19 S rfl
        have Ap_as := At.mono Ap_as hle19 (by intro h; have := congrArg List.length h; rw [setc_len] at this; cases this)
        refine WL.valw (R.not rfl) ?_
        refine WL.nil ?_
        rcases condE hy9 with ⟨hc20, hy9⟩ | ⟨hc20, hy9⟩
        · refine WP.condT rfl hc20 ?_
          refine WP.exit ?_
          obtain rfl := Option.some.inj hy9
          obtain rfl := hy10
          exact ⟨H18, h3, S⟩
        · refine WP.condF rfl hc20 ?_
          refine WP.skip ?_
          refine WP.region ?_
          refine WL.valw (R.mv (v := (str s_2)) h3) ?_
          obtain ⟨s21, hs21, hy9⟩ := bindE hy9
          refine WL.valw (R.subSlo rfl rfl Tryz.underlying9 hs21) ?_
          refine WL.valw (R.as (v := (str s21)) rfl) ?_
          refine WL.nil ?_
          obtain rfl := Option.some.inj hy9
          exact ⟨rfl, ⟨H18, rfl, h4, Ap_as, S⟩⟩
      · refine WP.condF rfl hc13 ?_
        refine WP.exit ?_
        obtain rfl := Option.some.inj hy9
        obtain rfl := hy10
        exact ⟨H1, h3, S⟩
  · rintro f w ⟨H5, h7, S⟩
    refine WP.seq ?_
    refine WP.region ?_
    refine WL.valw (R.mv (v := (str s_6)) h7) ?_
    refine WL.valw (R.as (v := (str s_6)) rfl) ?_
    refine WL.nil ?_
    obtain rfl := Option.some.inj h
    refine WP.ret (Out.one rfl S rfl ?_)
    exact rfl
set_option maxRecDepth 10000 in
set_option maxHeartbeats 4000000 in
theorem strings_Trim_ok {w0 : World} {H0 : Hp} (hw : Holds w0 H0) (hG : Tryz.Gl w0) (p_s : Str) (p_cutset : Str) {r : Str} (h : strings_Trim p_s p_cutset = some r) :
    Con Tryz.prog 201 [(str p_s), (str p_cutset)] w0 H0 (fun H' v => v = (str r)) := by
  refine Con.mk (N := 43) Tryz.func201 rfl rfl (by kernel_rfl) rfl ?_
  have S := St.start hw
  refine WP.seq ?_
  refine WP.region ?_
  refine WL.valw (R.as (v := (str [])) rfl) ?_
  refine WL.nil ?_
  refine WP.seq ?_
  refine WP.seq ?_
  refine WP.region ?_
  refine WL.valw (R.mv (v := (str p_s)) rfl) ?_
  refine WL.valw (R.eqlS (a := p_s) (b := []) rfl rfl) ?_
  refine WL.valw (R.mv (v := (boo (p_s == []))) rfl) ?_
  refine WL.grp 3 [10, 11] 12 (boo ((p_s == []) || (p_cutset == []))) ?_ ?_
  · rcases boolE (p_s == []) with hb1 | hb1
    · refine WL.gno rfl rfl hb1 ?_
      refine WL.gno rfl rfl hb1 ?_
      refine WL.valw (R.pickT rfl hb1 rfl) ?_
      exact WL.nil ⟨(orT hb1), (by repeat (first | refine agree_upd rfl ?_ | refine agree_upds' rfl ?_ | exact agree_refl)), rfl⟩
    · refine WL.gyes rfl rfl hb1 ?_
      refine WL.valw (R.mv (v := (str p_cutset)) rfl) ?_
      refine WL.gyes rfl rfl hb1 ?_
      refine WL.valw (R.eqlS (a := p_cutset) (b := []) rfl rfl) ?_
      refine WL.valw (R.pickF rfl hb1 rfl) ?_
      exact WL.nil ⟨(orF hb1), (by repeat (first | refine agree_upd rfl ?_ | refine agree_upds' rfl ?_ | exact agree_refl)), rfl⟩
  · intro us
    refine WL.nil ?_
    rcases condE h with ⟨hc3, h⟩ | ⟨hc3, h⟩
    · refine WP.condT rfl hc3 ?_
      refine WP.seq ?_
      refine WP.region ?_
      refine WL.valw (R.mv (v := (str p_s)) rfl) ?_
      refine WL.valw (R.as (v := (str p_s)) rfl) ?_
      refine WL.nil ?_
      obtain rfl := Option.some.inj h
      refine WP.ret (Out.one rfl S rfl ?_)
      exact rfl
    · refine WP.condF rfl hc3 ?_
      refine WP.skip ?_
      refine WP.seq ?_
      refine WP.seq ?_
      refine WP.region ?_
      refine WL.valw (R.mv (v := (str p_cutset)) rfl) ?_
      refine WL.valw (R.lenS (a := p_cutset) rfl Tryz.underlying9) ?_
      refine WL.valw (R.eql rfl rfl) ?_
      refine WL.valw (R.mv (v := (boo ((p_cutset.length : Int) == 1))) rfl) ?_
      obtain ⟨b7, hg5, h⟩ := bindE h
      refine WL.grp 4 [18, 19, 20] 21 (boo b7) ?_ ?_
      · rcases boolE ((p_cutset.length : Int) == 1) with hb4 | hb4
        · replace hg5 := condT hg5 hb4
          refine WL.gyes rfl rfl hb4 ?_
          refine WL.valw (R.mv (v := (str p_cutset)) rfl) ?_
          refine WL.gyes rfl rfl hb4 ?_
          obtain ⟨c6, hc6, hg5⟩ := bindE hg5
          refine WL.valw (R.idxS rfl rfl Tryz.underlying9 hc6) ?_
          refine WL.gyes rfl rfl hb4 ?_
          refine WL.valw (R.lss8 (a := c6) (b := 128) rfl rfl) ?_
          refine WL.valw (R.pickT rfl hb4 rfl) ?_
          exact WL.nil ⟨(congrArg boo (Option.some.inj hg5)), (by repeat (first | refine agree_upd rfl ?_ | refine agree_upds' rfl ?_ | exact agree_refl)), rfl⟩
        · replace hg5 := condF hg5 hb4
          refine WL.gno rfl rfl hb4 ?_
          refine WL.gno rfl rfl hb4 ?_
          refine WL.gno rfl rfl hb4 ?_
          refine WL.valw (R.pickF rfl hb4 rfl) ?_
          exact WL.nil ⟨(congrArg boo (Option.some.inj hg5)), (by repeat (first | refine agree_upd rfl ?_ | refine agree_upds' rfl ?_ | exact agree_refl)), rfl⟩
      · intro us
        refine WL.nil ?_
        rcases condE h with ⟨hc8, h⟩ | ⟨hc8, h⟩
        · refine WP.condT rfl hc8 ?_
          refine WP.seq ?_
          refine WP.quiet S (by kernel_rfl) (by kernel_rfl) ?_
          refine WQ.val (fun _ _ => (R.mv (v := (str p_s)) rfl)) ?_
          refine WQ.val (fun _ _ => (R.mv (v := (str p_cutset)) rfl)) ?_
          obtain ⟨c12, hc12, h⟩ := bindE h
          refine WQ.val (fun _ _ => (R.idxS rfl rfl Tryz.underlying9 hc12)) ?_
          obtain ⟨r13, hr13, h⟩ := bindE h
          refine WQ.call (v := (str r13)) rfl (fun w H' hq S => strings_trimRightByte_ok S.holds (hG.post S.post) p_s c12 hr13) ?_
          refine WQ.val (fun _ _ => (R.mv (v := (str p_cutset)) rfl)) ?_
          obtain ⟨c18, hc18, h⟩ := bindE h
          refine WQ.val (fun _ _ => (R.idxS rfl rfl Tryz.underlying9 hc18)) ?_
          obtain ⟨r19, hr19, h⟩ := bindE h
          refine WQ.call (v := (str r19)) rfl (fun w H' hq S => strings_trimLeftByte_ok S.holds (hG.post S.post) r13 c18 hr19) ?_
          refine WQ.val (fun _ _ => (R.as (v := (str r19)) rfl)) ?_
          refine WQ.nil ?_
          intro w9 H10 hle11 S
          obtain rfl := Option.some.inj h
          refine WP.ret (Out.one rfl S rfl ?_)
          exact rfl
        · refine WP.condF rfl hc8 ?_
          refine WP.skip ?_
          refine WP.seq ?_
          refine WP.seq ?_
          refine WP.region ?_
          refine WL.valw (R.mv (v := (str p_cutset)) rfl) ?_
          obtain ⟨r24, hr24, h⟩ := bindE h
          refine W.call S rfl (strings_makeASCIISet_ok S.holds p_cutset hr24) ?_
          rintro v25 w26 H27 hle28 S rfl
          refine WL.valw (R.mv (v := (.tuple ⟨[(.agg (Lib.setCells p_cutset)), (boo true)]⟩)) rfl) ?_
          refine WL.valw (R.ext rfl rfl) ?_
          refine WL.valw (R.ext rfl rfl) ?_
          refine W.alloc (List.replicate 256 (boo false)) S zer170 ?_
          intro b29 w30 S
          refine W.store (i := 0) (setc p_cutset) S rfl rfl rfl lay170 (show (Lib.setCells p_cutset).size = 256 by have := setc_len p_cutset; simpa [setc] using this) (setc_one p_cutset) (Nat.le_of_eq (by rw [List.length_replicate])) (splice_all ((setc_len p_cutset).trans (by rw [List.length_replicate]))) ?_
          intro w31 S
          obtain ⟨H32, hle33, hs34, _, S⟩ := S.settle (i := 0) rfl
          replace S : St w0 H0 _ H32 [] := S
          have hA35 : At H32 ⟨b29, 0, none⟩ (setc p_cutset) := ⟨_, _, rfl, hs34, [], by simp⟩
          refine WL.valw (R.as (v := (boo true)) rfl) ?_
          refine WL.nil ?_
          refine WP.seq ?_
          refine WP.region ?_
          refine WL.valw (R.mv (v := (boo true)) rfl) ?_
          refine WL.nil ?_
          refine WP.condT (b := true) rfl rfl ?_
          refine WP.seq ?_
          refine WP.region ?_
          refine WL.valw (R.mv (v := (str p_s)) rfl) ?_
          obtain ⟨r36, hr36, h⟩ := bindE h
          refine W.call S rfl (strings_trimRightASCII_ok S.holds (hG.post S.post) p_s p_cutset hA35 hr36) ?_
          rintro v37 w38 H39 hle40 S rfl
          have hA35 := At.mono hA35 hle40 (by intro h; have := congrArg List.length h; rw [setc_len] at this; cases this)
          obtain ⟨r41, hr41, h⟩ := bindE h
          refine W.call S rfl (strings_trimLeftASCII_ok S.holds (hG.post S.post) r36 p_cutset hA35 hr41) ?_
          rintro v42 w43 H44 hle45 S rfl
          have hA35 := At.mono hA35 hle45 (by intro h; have := congrArg List.length h; rw [setc_len] at this; cases this)
          refine WL.valw (R.as (v := (str r41)) rfl) ?_
          refine WL.nil ?_
          obtain rfl := Option.some.inj h
          refine WP.ret (Out.one rfl S rfl ?_)
          exact rfl
set_option maxRecDepth 10000 in
set_option maxHeartbeats 4000000 in
theorem ascii_Trim_ok {w0 : World} {H0 : Hp} (hw : Holds w0 H0) (hG : Tryz.Gl w0) (p_s : Str) {r : Str} (h : ascii_Trim p_s = some r) :
    Con Tryz.prog 168 [(str p_s)] w0 H0 (fun H' v => v = (str r)) := by
  refine Con.mk (N := 5) Tryz.func168 rfl rfl (by kernel_rfl) rfl ?_
  have S := St.start hw
  refine WP.seq ?_
  refine WP.region ?_
  refine WL.valw (R.as (v := (str [])) rfl) ?_
  refine WL.nil ?_
  refine WP.seq ?_
  refine WP.region ?_
  refine WL.valw (R.mv (v := (str p_s)) rfl) ?_
  obtain ⟨r1, hr1, h⟩ := bindE h
  refine W.call S rfl (strings_Trim_ok S.holds (hG.post S.post) p_s [32, 9] hr1) ?_
  rintro v2 w3 H4 hle5 S rfl
  refine WL.valw (R.as (v := (str r1)) rfl) ?_
  refine WL.nil ?_
  obtain rfl := Option.some.inj h
  refine WP.ret (Out.one rfl S rfl ?_)
  exact rfl
set_option maxRecDepth 10000 in
set_option maxHeartbeats 4000000 in
theorem fieldline_line_ok {w0 : World} {H0 : Hp} (hw : Holds w0 H0) (hG : Tryz.Gl w0) (p_f : GField) {r : Str} (h : fieldline_line p_f = some r) :
    Con Tryz.prog 164 [(agg [(str p_f.fName), (str p_f.fValue)])] w0 H0 (fun H' v => v = (str r)) := by
  refine Con.mk (N := 15) Tryz.func164 rfl rfl (by kernel_rfl) rfl ?_
  have S := St.start hw
  refine WP.seq ?_
  refine WP.region ?_
  refine W.box [(str p_f.fName), (str p_f.fValue)] S rfl rfl ?_
  intro b1 w2 S
  refine WL.valw (R.as (v := (str [])) rfl) ?_
  refine WL.nil ?_
  refine WP.seq ?_
  refine WP.seq ?_
  refine WP.region ?_
  refine WL.valw (R.fieldB rfl fld53_1) ?_
  refine WL.valw (R.loadB (i := 0) (v := (str p_f.fValue)) S rfl rfl lay9 rfl) ?_
  refine WL.valw (R.eqlS (a := p_f.fValue) (b := []) rfl rfl) ?_
  refine WL.nil ?_
  rcases condE h with ⟨hc3, h⟩ | ⟨hc3, h⟩
  · refine WP.condT rfl hc3 ?_
    refine WP.seq ?_
    refine WP.region ?_
    refine WL.valw (R.fieldB rfl fld53_0) ?_
    refine WL.valw (R.loadB (i := 0) (v := (str p_f.fName)) S rfl rfl lay9 rfl) ?_
    obtain ⟨s4, hs4, h⟩ := bindE h
    refine WL.valw (R.cat (a := p_f.fName) (b := [58]) rfl rfl hs4) ?_
    refine WL.valw (R.as (v := (str s4)) rfl) ?_
    refine WL.nil ?_
    obtain rfl := Option.some.inj h
    refine WP.ret (Out.one rfl S rfl ?_)
    exact rfl
  · refine WP.condF rfl hc3 ?_
    refine WP.skip ?_
    refine WP.seq ?_
    refine WP.region ?_
    refine WL.valw (R.fieldB rfl fld53_0) ?_
    refine WL.valw (R.loadB (i := 0) (v := (str p_f.fName)) S rfl rfl lay9 rfl) ?_
    obtain ⟨s5, hs5, h⟩ := bindE h
    refine WL.valw (R.cat (a := p_f.fName) (b := [58, 32]) rfl rfl hs5) ?_
    refine WL.valw (R.fieldB rfl fld53_1) ?_
    refine WL.valw (R.loadB (i := 0) (v := (str p_f.fValue)) S rfl rfl lay9 rfl) ?_
    obtain ⟨s6, hs6, h⟩ := bindE h
    refine WL.valw (R.cat (a := s5) (b := p_f.fValue) rfl rfl hs6) ?_
    refine WL.valw (R.as (v := (str s6)) rfl) ?_
    refine WL.nil ?_
    obtain rfl := Option.some.inj h
    refine WP.ret (Out.one rfl S rfl ?_)
    exact rfl
set_option maxRecDepth 10000 in
set_option maxHeartbeats 4000000 in
theorem fieldline_Valid_ok {w0 : World} {H0 : Hp} (hw : Holds w0 H0) (hG : Tryz.Gl w0) (p_f : GField) {r : Bool} (h : fieldline_Valid p_f = some r) :
    Con Tryz.prog 163 [(agg [(str p_f.fName), (str p_f.fValue)])] w0 H0 (fun H' v => v = (boo r)) := by
  refine Con.mk (N := 25) Tryz.func163 rfl rfl (by kernel_rfl) rfl ?_
  have S := St.start hw
  refine WP.seq ?_
  refine WP.region ?_
  refine W.box [(str p_f.fName), (str p_f.fValue)] S rfl rfl ?_
  intro b1 w2 S
  refine WL.valw (R.as (v := (boo false)) rfl) ?_
  refine WL.nil ?_
  refine WP.seq ?_
  refine WP.quiet S (by kernel_rfl) (by kernel_rfl) ?_
  refine WQ.val (fun _ _ => (R.fieldB rfl fld53_0)) ?_
  refine WQ.val (fun w hw => by obtain ⟨_, hq, S⟩ := hw; exact (R.loadB (i := 0) (v := (str p_f.fName)) S rfl rfl lay9 rfl)) ?_
  obtain ⟨r6, hr6, h⟩ := bindE h
  refine WQ.call (v := (boo r6)) rfl (fun w H' hq S => ascii_Token_ok S.holds (hG.post S.post) p_f.fName hr6) ?_
  refine WQ.val (fun _ _ => (R.mv (v := (boo r6)) rfl)) ?_
  obtain ⟨b18, hg12, h⟩ := bindE h
  refine WQ.grp 4 [7, 8, 9] 10 (boo b18) ?_ ?_
  · rcases boolE r6 with hb11 | hb11
    · replace hg12 := condT hg12 hb11
      refine WQ.gyes rfl rfl hb11 ?_
      refine WQ.val (fun _ _ => (R.fieldB rfl fld53_1)) ?_
      refine WQ.gyes rfl rfl hb11 ?_
      refine WQ.val (fun w hw => by obtain ⟨_, hq, S⟩ := hw; exact (R.loadB (i := 0) (v := (str p_f.fValue)) S rfl rfl lay9 rfl)) ?_
      refine WQ.gyes rfl rfl hb11 ?_
      obtain ⟨r13, hr13, hg12⟩ := bindE hg12
      refine WQ.call (v := (boo r13)) rfl (fun w H' hq S => ascii_Text_ok S.holds (hG.post S.post) p_f.fValue hr13) ?_
      refine WQ.val (fun _ _ => (R.pickT rfl hb11 rfl)) ?_
      exact WQ.nil ⟨(congrArg boo (Option.some.inj hg12)), (by repeat (first | refine agree_upd rfl ?_ | refine agree_upds' rfl ?_ | exact agree_refl))⟩
    · replace hg12 := condF hg12 hb11
      refine WQ.gno rfl rfl hb11 ?_
      refine WQ.gno rfl rfl hb11 ?_
      refine WQ.gno rfl rfl hb11 ?_
      refine WQ.val (fun _ _ => (R.pickF rfl hb11 rfl)) ?_
      exact WQ.nil ⟨(congrArg boo (Option.some.inj hg12)), (by repeat (first | refine agree_upd rfl ?_ | refine agree_upds' rfl ?_ | exact agree_refl))⟩
  · intro us
    refine WQ.val (fun _ _ => (R.mv (v := (boo b18)) rfl)) ?_
    obtain ⟨b26, hg20, h⟩ := bindE h
    refine WQ.grp 7 [12, 13, 14, 15, 16, 17] 18 (boo b26) ?_ ?_
    · rcases boolE b18 with hb19 | hb19
      · replace hg20 := condT hg20 hb19
        refine WQ.gyes rfl rfl hb19 ?_
        refine WQ.val (fun _ _ => (R.fieldB rfl fld53_1)) ?_
        refine WQ.gyes rfl rfl hb19 ?_
        refine WQ.val (fun w hw => by obtain ⟨_, hq, S⟩ := hw; exact (R.loadB (i := 0) (v := (str p_f.fValue)) S rfl rfl lay9 rfl)) ?_
        refine WQ.gyes rfl rfl hb19 ?_
        obtain ⟨r21, hr21, hg20⟩ := bindE hg20
        refine WQ.call (v := (str r21)) rfl (fun w H' hq S => ascii_Trim_ok S.holds (hG.post S.post) p_f.fValue hr21) ?_
        refine WQ.gyes rfl rfl hb19 ?_
        refine WQ.val (fun _ _ => (R.fieldB rfl fld53_1)) ?_
        refine WQ.gyes rfl rfl hb19 ?_
        refine WQ.val (fun w hw => by obtain ⟨_, hq, S⟩ := hw; exact (R.loadB (i := 0) (v := (str p_f.fValue)) S rfl rfl lay9 rfl)) ?_
        refine WQ.gyes rfl rfl hb19 ?_
        refine WQ.val (fun _ _ => (R.eqlS (a := r21) (b := p_f.fValue) rfl rfl)) ?_
        refine WQ.val (fun _ _ => (R.pickT rfl hb19 rfl)) ?_
        exact WQ.nil ⟨(congrArg boo (Option.some.inj hg20)), (by repeat (first | refine agree_upd rfl ?_ | refine agree_upds' rfl ?_ | exact agree_refl))⟩
      · replace hg20 := condF hg20 hb19
        refine WQ.gno rfl rfl hb19 ?_
        refine WQ.gno rfl rfl hb19 ?_
        refine WQ.gno rfl rfl hb19 ?_
        refine WQ.gno rfl rfl hb19 ?_
        refine WQ.gno rfl rfl hb19 ?_
        refine WQ.gno rfl rfl hb19 ?_
        refine WQ.val (fun _ _ => (R.pickF rfl hb19 rfl)) ?_
        exact WQ.nil ⟨(congrArg boo (Option.some.inj hg20)), (by repeat (first | refine agree_upd rfl ?_ | refine agree_upds' rfl ?_ | exact agree_refl))⟩
    · intro us
      refine WQ.val (fun _ _ => (R.mv (v := (boo b26)) rfl)) ?_
      obtain ⟨b34, hg28, h⟩ := bindE h
      refine WQ.grp 5 [20, 21, 22, 23] 24 (boo b34) ?_ ?_
      · rcases boolE b26 with hb27 | hb27
        · replace hg28 := condT hg28 hb27
          refine WQ.gyes rfl rfl hb27 ?_
          refine WQ.val (fun w hw => by obtain ⟨_, hq, S⟩ := hw; exact (R.loadBN (i := 0) (vs := [(str p_f.fName), (str p_f.fValue)]) S rfl rfl lay53 rfl rfl)) ?_
          refine WQ.gyes rfl rfl hb27 ?_
          obtain ⟨r29, hr29, hg28⟩ := bindE hg28
          refine WQ.call (v := (str r29)) rfl (fun w H' hq S => fieldline_line_ok S.holds (hG.post S.post) p_f hr29) ?_
          refine WQ.gyes rfl rfl hb27 ?_
          refine WQ.val (fun _ _ => (R.lenS (a := r29) rfl Tryz.underlying9)) ?_
          refine WQ.gyes rfl rfl hb27 ?_
          refine WQ.val (fun _ _ => (R.leq rfl rfl)) ?_
          refine WQ.val (fun _ _ => (R.pickT rfl hb27 rfl)) ?_
          exact WQ.nil ⟨(congrArg boo (Option.some.inj hg28)), (by repeat (first | refine agree_upd rfl ?_ | refine agree_upds' rfl ?_ | exact agree_refl))⟩
        · replace hg28 := condF hg28 hb27
          refine WQ.gno rfl rfl hb27 ?_
          refine WQ.gno rfl rfl hb27 ?_
          refine WQ.gno rfl rfl hb27 ?_
          refine WQ.gno rfl rfl hb27 ?_
          refine WQ.val (fun _ _ => (R.pickF rfl hb27 rfl)) ?_
          exact WQ.nil ⟨(congrArg boo (Option.some.inj hg28)), (by repeat (first | refine agree_upd rfl ?_ | refine agree_upds' rfl ?_ | exact agree_refl))⟩
      · intro us
        refine WQ.val (fun _ _ => (R.as (v := (boo b34)) rfl)) ?_
        refine WQ.nil ?_
        intro w3 H4 hle5 S
        obtain rfl := Option.some.inj h
        refine WP.ret (Out.one rfl S rfl ?_)
        exact rfl
set_option maxRecDepth 10000 in
set_option maxHeartbeats 4000000 in
theorem fieldline_Format_ok {w0 : World} {H0 : Hp} (hw : Holds w0 H0) (hG : Tryz.Gl w0) (p_f : GField) {r : Str} (h : fieldline_Format p_f = some r) :
    Con Tryz.prog 119 [(agg [(str p_f.fName), (str p_f.fValue)])] w0 H0 (fun H' v => v = (str r)) := by
  refine Con.mk (N := 8) Tryz.func119 rfl rfl (by kernel_rfl) rfl ?_
  have S := St.start hw
  refine WP.seq ?_
  refine WP.region ?_
  refine W.box [(str p_f.fName), (str p_f.fValue)] S rfl rfl ?_
  intro b1 w2 S
  refine WL.valw (R.as (v := (str [])) rfl) ?_
  refine WL.nil ?_
  refine WP.seq ?_
  refine WP.seq ?_
  refine WP.region ?_
  refine WL.valw (R.loadBN (i := 0) (vs := [(str p_f.fName), (str p_f.fValue)]) S rfl rfl lay53 rfl rfl) ?_
  obtain ⟨r3, hr3, h⟩ := bindE h
  refine W.call S rfl (fieldline_Valid_ok S.holds (hG.post S.post) p_f hr3) ?_
  rintro v4 w5 H6 hle7 S rfl
  refine WL.valw (R.not rfl) ?_
  refine WL.nil ?_
  rcases condE h with ⟨hc8, h⟩ | ⟨hc8, h⟩
  · refine WP.condT rfl hc8 ?_
    refine WP.seq ?_
    refine WP.region ?_
    refine WL.valw (R.as (v := (str [])) rfl) ?_
    refine WL.nil ?_
    obtain rfl := Option.some.inj h
    refine WP.ret (Out.one rfl S rfl ?_)
    exact rfl
  · refine WP.condF rfl hc8 ?_
    refine WP.skip ?_
    refine WP.seq ?_
    refine WP.region ?_
    refine WL.valw (R.loadBN (i := 0) (vs := [(str p_f.fName), (str p_f.fValue)]) S rfl rfl lay53 rfl rfl) ?_
    obtain ⟨r9, hr9, h⟩ := bindE h
    refine W.call S rfl (fieldline_line_ok S.holds (hG.post S.post) p_f hr9) ?_
    rintro v10 w11 H12 hle13 S rfl
    refine WL.valw (R.as (v := (str r9)) rfl) ?_
    refine WL.nil ?_
    obtain rfl := Option.some.inj h
    refine WP.ret (Out.one rfl S rfl ?_)
    exact rfl
set_option maxRecDepth 10000 in
set_option maxHeartbeats 4000000 in
theorem strings_Builder_copyCheck__nil_okS {w0 ws : World} {H0 Hs : Hp} {L2 : List Ent} (hG : Tryz.Gl w0) (s0_buf : (List UInt8)) {v0_1 : Value} {b0 : Nat} (S : St w0 H0 ws Hs (.box b0 133 [(.pointer none), v0_1] :: .row v0_1 5 1 s0_buf.length :: L2)) (R0_1 : Sl (α := UInt8) Hs v0_1 s0_buf) {r : Unit} (h : strings_Builder_copyCheck__nil s0_buf = some r) :
    ConS Tryz.prog 162 [(ptr b0 0)] w0 H0 ws Hs L2 (fun H' v L' => ∃ u1 : Value, L' = [.box b0 133 [(ptr b0 0), u1], .row u1 5 1 s0_buf.length] ∧ v = (.tuple #[]) ∧ Sl (α := UInt8) H' u1 s0_buf) := by
  refine ConS.mk (N := 20) Tryz.func162 rfl rfl (by kernel_rfl) rfl ?_
  refine WP.seq ?_
  refine WP.region ?_
  refine WL.valw (R.mv (v := (ptr b0 0)) rfl) ?_
  refine WL.valw (R.nilCheckB rfl) ?_
  refine WL.valw (R.fieldB rfl fld133_0) ?_
  refine WL.valw (R.loadB (i := 0) (v := (.pointer none)) S rfl rfl lay131 rfl) ?_
  refine WL.valw (v := (boo true)) (R.ofEq (R.eqlPN rfl rfl Tryz.underlying131) rfl) ?_
  refine WL.nil ?_
  refine WP.condT (b := true) rfl rfl ?_
  refine WP.region ?_
  refine WL.valw (R.mv (v := (ptr b0 0)) rfl) ?_
  refine WL.valw (R.mv (v := (ptr b0 0)) rfl) ?_
  refine WL.valw (R.toUnsafe (i := 0) S rfl rfl Tryz.underlying131 Tryz.underlying195 lay133 (by decide) (by simp)) ?_
  refine W.noEscape Tryz.func200 rfl rfl (by kernel_rfl) (by kernel_rfl) rfl ?_
  refine WL.valw (R.fromUnsafe (i := 0) S rfl rfl Tryz.underlying195 Tryz.underlying131 inf133 ceo133 (by simp)) ?_
  refine WL.valw (R.nilCheckB rfl) ?_
  refine WL.valw (R.fieldB rfl fld133_0) ?_
  refine W.store (i := 0) [(ptr b0 0), v0_1] S rfl rfl rfl lay131 rfl rfl (Nat.le_of_ble_eq_true rfl) rfl ?_
  intro w1 S
  refine WL.nil ?_
  obtain rfl := Option.some.inj h
  have S3 := S
  have S3 := S3.front 1 rfl
  have S3 := S3.front 1 rfl
  replace S3 : St w0 H0 _ Hs (.box b0 133 [(ptr b0 0), v0_1] :: .row v0_1 5 1 s0_buf.length :: L2) := S3
  replace S3 : St w0 H0 _ Hs (.box b0 133 [(ptr b0 0), v0_1] :: .row v0_1 5 1 s0_buf.length :: L2) := S3.drop _ (.cons_cons _ (.cons_cons _ (.refl _)))
  refine (OutS.zero (L' := [.box b0 133 [(ptr b0 0), v0_1], .row v0_1 5 1 s0_buf.length]) (.inr rfl) rfl (Hp.le.refl _) S3 ?_)
  exact ⟨_, rfl, rfl, R0_1⟩
set_option maxRecDepth 10000 in
set_option maxHeartbeats 4000000 in
theorem strings_Builder_copyCheck__self_okS {w0 ws : World} {H0 Hs : Hp} {L2 : List Ent} (hG : Tryz.Gl w0) (s0_buf : (List UInt8)) {v0_1 : Value} {b0 : Nat} (S : St w0 H0 ws Hs (.box b0 133 [(ptr b0 0), v0_1] :: .row v0_1 5 1 s0_buf.length :: L2)) (R0_1 : Sl (α := UInt8) Hs v0_1 s0_buf) {r : Unit} (h : strings_Builder_copyCheck__self s0_buf = some r) :
    ConS Tryz.prog 162 [(ptr b0 0)] w0 H0 ws Hs L2 (fun H' v L' => ∃ u1 : Value, L' = [.box b0 133 [(ptr b0 0), u1], .row u1 5 1 s0_buf.length] ∧ v = (.tuple #[]) ∧ Sl (α := UInt8) H' u1 s0_buf) := by
  refine ConS.mk (N := 20) Tryz.func162 rfl rfl (by kernel_rfl) rfl ?_
  refine WP.seq ?_
  refine WP.region ?_
  refine WL.valw (R.mv (v := (ptr b0 0)) rfl) ?_
  refine WL.valw (R.nilCheckB rfl) ?_
  refine WL.valw (R.fieldB rfl fld133_0) ?_
  refine WL.valw (R.loadB (i := 0) (v := (ptr b0 0)) S rfl rfl lay131 rfl) ?_
  refine WL.valw (v := (boo false)) (R.ofEq (R.eqlPN rfl rfl Tryz.underlying131) rfl) ?_
  refine WL.nil ?_
  refine WP.condF (b := false) rfl rfl ?_
  refine WP.seq ?_
  refine WP.region ?_
  refine WL.valw (R.mv (v := (ptr b0 0)) rfl) ?_
  refine WL.valw (R.nilCheckB rfl) ?_
  refine WL.valw (R.fieldB rfl fld133_0) ?_
  refine WL.valw (R.loadB (i := 0) (v := (ptr b0 0)) S rfl rfl lay131 rfl) ?_
  refine WL.valw (R.mv (v := (ptr b0 0)) rfl) ?_
  refine WL.valw (R.neqPS rfl rfl Tryz.underlying131 inf133) ?_
  refine WL.nil ?_
  refine WP.condF (b := false) rfl rfl ?_
  refine WP.skip ?_
  obtain rfl := Option.some.inj h
  have S3 := S
  have S3 := S3.front 1 rfl
  have S3 := S3.front 1 rfl
  replace S3 : St w0 H0 _ Hs (.box b0 133 [(ptr b0 0), v0_1] :: .row v0_1 5 1 s0_buf.length :: L2) := S3
  replace S3 : St w0 H0 _ Hs (.box b0 133 [(ptr b0 0), v0_1] :: .row v0_1 5 1 s0_buf.length :: L2) := S3.drop _ (.cons_cons _ (.cons_cons _ (.refl _)))
  refine (OutS.zero (L' := [.box b0 133 [(ptr b0 0), v0_1], .row v0_1 5 1 s0_buf.length]) (.inr rfl) rfl (Hp.le.refl _) S3 ?_)
  exact ⟨_, rfl, rfl, R0_1⟩
theorem strings_Builder_copyCheck__Builder_okS {w0 ws : World} {H0 Hs : Hp} {L2 : List Ent} (hG : Tryz.Gl w0) (s0_buf : List UInt8) {v0_1 va0 : Value} {b0 : Nat} (S : St w0 H0 ws Hs (.box b0 133 [va0, v0_1] :: .row v0_1 5 1 s0_buf.length :: L2)) (R0_1 : Sl (α := UInt8) Hs v0_1 s0_buf) (hva0 : va0 = Value.pointer none ∨ va0 = ptr b0 0) {r : Unit} (h : strings_Builder_copyCheck__Builder s0_buf = some r) :
    ConS Tryz.prog 162 [(ptr b0 0)] w0 H0 ws Hs L2 (fun H' v L' => ∃ u1 u2 : Value, L' = [.box b0 133 [u1, u2], .row u2 5 1 s0_buf.length] ∧ v = (.tuple #[]) ∧ (u1 = Value.pointer none ∨ u1 = ptr b0 0) ∧ Sl (α := UInt8) H' u2 s0_buf) := by
  rcases hva0 with rfl | rfl
  · exact ConS.mono (strings_Builder_copyCheck__nil_okS hG s0_buf S R0_1 rfl) fun H' v L' ⟨u, h1, h2, h3⟩ => ⟨_, u, h1, h2, .inr rfl, h3⟩
  · exact ConS.mono (strings_Builder_copyCheck__self_okS hG s0_buf S R0_1 rfl) fun H' v L' ⟨u, h1, h2, h3⟩ => ⟨_, u, h1, h2, .inr rfl, h3⟩
set_option maxRecDepth 10000 in
set_option maxHeartbeats 4000000 in
theorem strings_Builder_WriteString__Builder_okS {w0 ws : World} {H0 Hs : Hp} {L2 : List Ent} (hG : Tryz.Gl w0) (p_s : Str) (s0_buf : (List UInt8)) {v0_1 : Value} {va0 : Value} {b0 : Nat} (S : St w0 H0 ws Hs (.box b0 133 [va0, v0_1] :: .row v0_1 5 1 s0_buf.length :: L2)) (R0_1 : Sl (α := UInt8) Hs v0_1 s0_buf) (hva0 : va0 = Value.pointer none ∨ va0 = ptr b0 0) {r : (Int × Unit × (List UInt8))} (h : strings_Builder_WriteString__Builder p_s s0_buf = some r) :
    ConS Tryz.prog 117 [(ptr b0 0), (str p_s)] w0 H0 ws Hs L2 (fun H' v L' => ∃ u1 u2 : Value, L' = [.box b0 133 [u1, u2], .row u2 5 1 r.2.2.length] ∧ v = (.tuple ⟨[(int r.1), .nilIface]⟩) ∧ (u1 = Value.pointer none ∨ u1 = ptr b0 0) ∧ Sl (α := UInt8) H' u2 r.2.2) := by
  refine ConS.mk (N := 19) Tryz.func117 rfl rfl (by kernel_rfl) rfl ?_
  refine WP.seq ?_
  refine WP.region ?_
  refine WL.valw (R.as (v := (int 0)) rfl) ?_
  refine WL.valw (R.as (v := .nilIface) rfl) ?_
  refine WL.nil ?_
  refine WP.seq ?_
  refine WP.region ?_
  refine WL.valw (R.mv (v := (ptr b0 0)) rfl) ?_
  replace S := S.front 1 rfl
  replace S := S.front 1 rfl
  replace S : St w0 H0 _ Hs (.box b0 133 [va0, v0_1] :: .row v0_1 5 1 s0_buf.length :: L2) := S
  obtain ⟨r1, hr1, h⟩ := bindE h
  refine W.callS rfl (strings_Builder_copyCheck__Builder_okS hG s0_buf S R0_1 hva0 hr1) ?_
  rintro v2 w3 H4 L6 hle5 S ⟨u7, u9, rfl, rfl, hv8, R10⟩
  replace S : St w0 H0 _ H4 (.box b0 133 [u7, u9] :: .row u9 5 1 s0_buf.length :: L2) := S
  refine WL.nil ?_
  refine WP.seq ?_
  refine WP.region ?_
  refine WL.valw (R.mv (v := (ptr b0 0)) rfl) ?_
  refine WL.valw (R.mv (v := (ptr b0 0)) rfl) ?_
  refine WL.valw (R.nilCheckB rfl) ?_
  refine WL.valw (R.fieldB rfl fld133_1) ?_
  refine WL.valw (R.loadB (i := 0) (v := u9) S rfl rfl lay130 rfl) ?_
  refine WL.valw (R.mv (v := (str p_s)) rfl) ?_
  obtain ⟨l11, hl11, h⟩ := bindE h
  refine W.appStr (i := 1) S el130 Tryz.underlying9 rfl rfl rfl R10 hl11 ?_
  intro v12 w13 H14 hle15 R16 S
  have R10 := Sl.mono R10 hle15
  refine WL.valw (R.nilCheckB rfl) ?_
  refine WL.valw (R.fieldB rfl fld133_1) ?_
  refine W.storeSl (α := UInt8) (i := 0) [u7, v12] S R16 rfl rfl rfl lay130 (Nat.le_of_ble_eq_true rfl) rfl ?_
  intro w17 S
  refine WL.nil ?_
  refine WP.seq ?_
  refine WP.region ?_
  refine WL.valw (R.mv (v := (str p_s)) rfl) ?_
  refine WL.valw (R.lenS (a := p_s) rfl Tryz.underlying9) ?_
  refine WL.valw (R.as (v := (int (p_s.length : Int))) rfl) ?_
  refine WL.valw (R.as (v := .nilIface) rfl) ?_
  refine WL.nil ?_
  obtain rfl := Option.some.inj h
  have S3 := S
  have S3 := S3.front 1 rfl
  have S3 := S3.front 1 rfl
  replace S3 : St w0 H0 _ H14 (.box b0 133 [u7, v12] :: .row v12 5 1 l11.length :: L2) := S3
  replace S3 : St w0 H0 _ H14 (.box b0 133 [u7, v12] :: .row v12 5 1 l11.length :: L2) := S3.drop _ (.cons_cons _ (.cons_cons _ (.refl _)))
  refine WP.ret (OutS.two (L' := [.box b0 133 [u7, v12], .row v12 5 1 l11.length]) rfl (hle5.trans hle15) S3 rfl rfl ?_)
  exact ⟨_, _, rfl, rfl, hv8, R16⟩
set_option maxRecDepth 10000 in
set_option maxHeartbeats 4000000 in
theorem strings_Builder_Len__Builder_okS {w0 ws : World} {H0 Hs : Hp} {L2 : List Ent} (hG : Tryz.Gl w0) (s0_buf : (List UInt8)) {v0_1 : Value} {va0 : Value} {b0 : Nat} (S : St w0 H0 ws Hs (.box b0 133 [va0, v0_1] :: .row v0_1 5 1 s0_buf.length :: L2)) (R0_1 : Sl (α := UInt8) Hs v0_1 s0_buf) (hva0 : va0 = Value.pointer none ∨ va0 = ptr b0 0) {r : Int} (h : strings_Builder_Len__Builder s0_buf = some r) :
    ConS Tryz.prog 120 [(ptr b0 0)] w0 H0 ws Hs L2 (fun H' v L' => L' = [.box b0 133 [va0, v0_1], .row v0_1 5 1 s0_buf.length] ∧ v = (int r)) := by
  refine ConS.mk (N := 8) Tryz.func120 rfl rfl (by kernel_rfl) rfl ?_
  refine WP.seq ?_
  refine WP.region ?_
  refine WL.valw (R.as (v := (int 0)) rfl) ?_
  refine WL.nil ?_
  refine WP.seq ?_
  refine WP.region ?_
  refine WL.valw (R.mv (v := (ptr b0 0)) rfl) ?_
  refine WL.valw (R.nilCheckB rfl) ?_
  refine WL.valw (R.fieldB rfl fld133_1) ?_
  refine WL.valw (R.loadB (i := 0) (v := v0_1) S rfl rfl lay130 rfl) ?_
  refine WL.valw (R.lenL (α := UInt8) (xs := s0_buf) (H := Hs) R0_1 rfl Tryz.underlying130) ?_
  refine WL.valw (R.as (v := (int (s0_buf.length : Int))) rfl) ?_
  refine WL.nil ?_
  obtain rfl := Option.some.inj h
  have S3 := S
  have S3 := S3.front 1 rfl
  have S3 := S3.front 1 rfl
  replace S3 : St w0 H0 _ Hs (.box b0 133 [va0, v0_1] :: .row v0_1 5 1 s0_buf.length :: L2) := S3
  replace S3 : St w0 H0 _ Hs (.box b0 133 [va0, v0_1] :: .row v0_1 5 1 s0_buf.length :: L2) := S3.drop _ (.cons_cons _ (.cons_cons _ (.refl _)))
  refine WP.ret (OutS.one (L' := [.box b0 133 [va0, v0_1], .row v0_1 5 1 s0_buf.length]) rfl (Hp.le.refl _) S3 rfl ?_)
  exact ⟨rfl, rfl⟩
set_option maxRecDepth 10000 in
set_option maxHeartbeats 4000000 in
theorem strings_Builder_String__Builder_okS {w0 ws : World} {H0 Hs : Hp} {L2 : List Ent} (hG : Tryz.Gl w0) (s0_buf : (List UInt8)) {v0_1 : Value} {va0 : Value} {b0 : Nat} (S : St w0 H0 ws Hs (.box b0 133 [va0, v0_1] :: .row v0_1 5 1 s0_buf.length :: L2)) (R0_1 : Sl (α := UInt8) Hs v0_1 s0_buf) (hva0 : va0 = Value.pointer none ∨ va0 = ptr b0 0) {r : Str} (h : strings_Builder_String__Builder s0_buf = some r) :
    ConS Tryz.prog 121 [(ptr b0 0)] w0 H0 ws Hs L2 (fun H' v L' => L' = [.box b0 133 [va0, v0_1]] ∧ v = (str r)) := by
  refine ConS.mk (N := 14) Tryz.func121 rfl rfl (by kernel_rfl) rfl ?_
  refine WP.seq ?_
  refine WP.region ?_
  refine WL.valw (R.as (v := (str [])) rfl) ?_
  refine WL.nil ?_
  refine WP.seq ?_
  refine WP.draw (by kernel_rfl) 12 rfl #[false, false, false, false, false, false, false, false, false, false, false, false] rfl ?_
  have S := S.drew
  refine WA.take (i := 0) #[true, false, false, false, false, false, false, false, false, false, false, false] rfl (by kernel_rfl) (by kernel_rfl) (by kernel_rfl) rfl (fun _ => (R.mv (v := (ptr b0 0)) rfl)) ?_
  refine WA.take (i := 5) #[true, false, false, false, false, true, false, false, false, false, false, false] rfl (by kernel_rfl) (by kernel_rfl) (by kernel_rfl) rfl (fun _ => (R.mv (v := (ptr b0 0)) rfl)) ?_
  refine WA.two (i := 1) (j := 6) #[true, true, false, false, false, true, false, false, false, false, false, false] #[true, false, false, false, false, true, true, false, false, false, false, false] rfl rfl (by kernel_rfl) rfl rfl ?_ ?_
  · refine WL.valw (R.nilCheckB rfl) ?_
    refine WL.nil ?_
    refine WA.take (i := 2) #[true, true, true, false, false, true, false, false, false, false, false, false] rfl (by kernel_rfl) (by kernel_rfl) (by kernel_rfl) rfl (fun _ => (R.fieldB rfl fld133_1)) ?_
    refine WA.two (i := 3) (j := 6) #[true, true, true, true, false, true, false, false, false, false, false, false] #[true, true, true, false, false, true, true, false, false, false, false, false] rfl rfl (by kernel_rfl) rfl rfl ?_ ?_
    · refine WL.valw (R.loadB (i := 0) (v := v0_1) S rfl rfl lay130 rfl) ?_
      refine WL.nil ?_
      refine WA.two (i := 4) (j := 6) #[true, true, true, true, true, true, false, false, false, false, false, false] #[true, true, true, true, false, true, true, false, false, false, false, false] rfl rfl (by kernel_rfl) rfl rfl ?_ ?_
      · refine W.sliceData (i := 1) S rfl rfl Tryz.underlying162 ?_
        intro v1 w3 hp2 S
        refine WL.nil ?_
        refine WA.one (i := 6) #[true, true, true, true, true, true, true, false, false, false, false, false] rfl (by kernel_rfl) rfl ?_
        refine WL.valw (R.nilCheckB rfl) ?_
        refine WL.nil ?_
        refine WA.take (i := 7) #[true, true, true, true, true, true, true, true, false, false, false, false] rfl (by kernel_rfl) (by kernel_rfl) (by kernel_rfl) rfl (fun _ => (R.fieldB rfl fld133_1)) ?_
        refine WA.one (i := 8) #[true, true, true, true, true, true, true, true, true, false, false, false] rfl (by kernel_rfl) rfl ?_
        refine WL.valw (R.loadB (i := 0) (v := v0_1) S rfl rfl lay130 rfl) ?_
        refine WL.nil ?_
        refine WA.take (i := 9) #[true, true, true, true, true, true, true, true, true, true, false, false] rfl (by kernel_rfl) (by kernel_rfl) (by kernel_rfl) rfl (fun _ => (R.lenL (α := UInt8) (xs := s0_buf) (H := Hs) R0_1 rfl Tryz.underlying130)) ?_
        refine WA.one (i := 10) #[true, true, true, true, true, true, true, true, true, true, true, false] rfl (by kernel_rfl) rfl ?_
        refine W.strOf (i := 1) S rfl R0_1 hp2 rfl rfl Tryz.underlying162 ceo5 ?_
        intro w4 S
        refine WL.nil ?_
        refine WA.take (i := 11) #[true, true, true, true, true, true, true, true, true, true, true, true] rfl (by kernel_rfl) (by kernel_rfl) (by kernel_rfl) rfl (fun _ => (R.as (v := (str s0_buf)) rfl)) ?_
        refine WA.done (by kernel_rfl) ?_
        obtain rfl := Option.some.inj h
        have S3 := S
        have S3 := S3.front 0 rfl
        replace S3 : St w0 H0 _ Hs (.box b0 133 [va0, v0_1] :: L2) := S3
        replace S3 : St w0 H0 _ Hs (.box b0 133 [va0, v0_1] :: L2) := S3.drop _ (.cons_cons _ (.refl _))
        refine WP.ret (OutS.one (L' := [.box b0 133 [va0, v0_1]]) rfl (Hp.le.refl _) S3 rfl ?_)
        exact ⟨rfl, rfl⟩
      · refine WL.valw (R.nilCheckB rfl) ?_
        refine WL.nil ?_
        refine WA.take (i := 7) #[true, true, true, true, false, true, true, true, false, false, false, false] rfl (by kernel_rfl) (by kernel_rfl) (by kernel_rfl) rfl (fun _ => (R.fieldB rfl fld133_1)) ?_
        refine WA.two (i := 4) (j := 8) #[true, true, true, true, true, true, true, true, false, false, false, false] #[true, true, true, true, false, true, true, true, true, false, false, false] rfl rfl (by kernel_rfl) rfl rfl ?_ ?_
        · refine W.sliceData (i := 1) S rfl rfl Tryz.underlying162 ?_
          intro v1 w3 hp2 S
          refine WL.nil ?_
          refine WA.one (i := 8) #[true, true, true, true, true, true, true, true, true, false, false, false] rfl (by kernel_rfl) rfl ?_
          refine WL.valw (R.loadB (i := 0) (v := v0_1) S rfl rfl lay130 rfl) ?_
          refine WL.nil ?_
          refine WA.take (i := 9) #[true, true, true, true, true, true, true, true, true, true, false, false] rfl (by kernel_rfl) (by kernel_rfl) (by kernel_rfl) rfl (fun _ => (R.lenL (α := UInt8) (xs := s0_buf) (H := Hs) R0_1 rfl Tryz.underlying130)) ?_
          refine WA.one (i := 10) #[true, true, true, true, true, true, true, true, true, true, true, false] rfl (by kernel_rfl) rfl ?_
          refine W.strOf (i := 1) S rfl R0_1 hp2 rfl rfl Tryz.underlying162 ceo5 ?_
          intro w4 S
          refine WL.nil ?_
          refine WA.take (i := 11) #[true, true, true, true, true, true, true, true, true, true, true, true] rfl (by kernel_rfl) (by kernel_rfl) (by kernel_rfl) rfl (fun _ => (R.as (v := (str s0_buf)) rfl)) ?_
          refine WA.done (by kernel_rfl) ?_
          obtain rfl := Option.some.inj h
          have S3 := S
          have S3 := S3.front 0 rfl
          replace S3 : St w0 H0 _ Hs (.box b0 133 [va0, v0_1] :: L2) := S3
          replace S3 : St w0 H0 _ Hs (.box b0 133 [va0, v0_1] :: L2) := S3.drop _ (.cons_cons _ (.refl _))
          refine WP.ret (OutS.one (L' := [.box b0 133 [va0, v0_1]]) rfl (Hp.le.refl _) S3 rfl ?_)
          exact ⟨rfl, rfl⟩
        · refine WL.valw (R.loadB (i := 0) (v := v0_1) S rfl rfl lay130 rfl) ?_
          refine WL.nil ?_
          refine WA.take (i := 9) #[true, true, true, true, false, true, true, true, true, true, false, false] rfl (by kernel_rfl) (by kernel_rfl) (by kernel_rfl) rfl (fun _ => (R.lenL (α := UInt8) (xs := s0_buf) (H := Hs) R0_1 rfl Tryz.underlying130)) ?_
          refine WA.one (i := 4) #[true, true, true, true, true, true, true, true, true, true, false, false] rfl (by kernel_rfl) rfl ?_
          refine W.sliceData (i := 1) S rfl rfl Tryz.underlying162 ?_
          intro v1 w3 hp2 S
          refine WL.nil ?_
          refine WA.one (i := 10) #[true, true, true, true, true, true, true, true, true, true, true, false] rfl (by kernel_rfl) rfl ?_
          refine W.strOf (i := 1) S rfl R0_1 hp2 rfl rfl Tryz.underlying162 ceo5 ?_
          intro w4 S
          refine WL.nil ?_
          refine WA.take (i := 11) #[true, true, true, true, true, true, true, true, true, true, true, true] rfl (by kernel_rfl) (by kernel_rfl) (by kernel_rfl) rfl (fun _ => (R.as (v := (str s0_buf)) rfl)) ?_
          refine WA.done (by kernel_rfl) ?_
          obtain rfl := Option.some.inj h
          have S3 := S
          have S3 := S3.front 0 rfl
          replace S3 : St w0 H0 _ Hs (.box b0 133 [va0, v0_1] :: L2) := S3
          replace S3 : St w0 H0 _ Hs (.box b0 133 [va0, v0_1] :: L2) := S3.drop _ (.cons_cons _ (.refl _))
          refine WP.ret (OutS.one (L' := [.box b0 133 [va0, v0_1]]) rfl (Hp.le.refl _) S3 rfl ?_)
          exact ⟨rfl, rfl⟩
    · refine WL.valw (R.nilCheckB rfl) ?_
      refine WL.nil ?_
      refine WA.take (i := 7) #[true, true, true, false, false, true, true, true, false, false, false, false] rfl (by kernel_rfl) (by kernel_rfl) (by kernel_rfl) rfl (fun _ => (R.fieldB rfl fld133_1)) ?_
      refine WA.two (i := 3) (j := 8) #[true, true, true, true, false, true, true, true, false, false, false, false] #[true, true, true, false, false, true, true, true, true, false, false, false] rfl rfl (by kernel_rfl) rfl rfl ?_ ?_
      · refine WL.valw (R.loadB (i := 0) (v := v0_1) S rfl rfl lay130 rfl) ?_
        refine WL.nil ?_
        refine WA.two (i := 4) (j := 8) #[true, true, true, true, true, true, true, true, false, false, false, false] #[true, true, true, true, false, true, true, true, true, false, false, false] rfl rfl (by kernel_rfl) rfl rfl ?_ ?_
        · refine W.sliceData (i := 1) S rfl rfl Tryz.underlying162 ?_
          intro v1 w3 hp2 S
          refine WL.nil ?_
          refine WA.one (i := 8) #[true, true, true, true, true, true, true, true, true, false, false, false] rfl (by kernel_rfl) rfl ?_
          refine WL.valw (R.loadB (i := 0) (v := v0_1) S rfl rfl lay130 rfl) ?_
          refine WL.nil ?_
          refine WA.take (i := 9) #[true, true, true, true, true, true, true, true, true, true, false, false] rfl (by kernel_rfl) (by kernel_rfl) (by kernel_rfl) rfl (fun _ => (R.lenL (α := UInt8) (xs := s0_buf) (H := Hs) R0_1 rfl Tryz.underlying130)) ?_
          refine WA.one (i := 10) #[true, true, true, true, true, true, true, true, true, true, true, false] rfl (by kernel_rfl) rfl ?_
          refine W.strOf (i := 1) S rfl R0_1 hp2 rfl rfl Tryz.underlying162 ceo5 ?_
          intro w4 S
          refine WL.nil ?_
          refine WA.take (i := 11) #[true, true, true, true, true, true, true, true, true, true, true, true] rfl (by kernel_rfl) (by kernel_rfl) (by kernel_rfl) rfl (fun _ => (R.as (v := (str s0_buf)) rfl)) ?_
          refine WA.done (by kernel_rfl) ?_
          obtain rfl := Option.some.inj h
          have S3 := S
          have S3 := S3.front 0 rfl
          replace S3 : St w0 H0 _ Hs (.box b0 133 [va0, v0_1] :: L2) := S3
          replace S3 : St w0 H0 _ Hs (.box b0 133 [va0, v0_1] :: L2) := S3.drop _ (.cons_cons _ (.refl _))
          refine WP.ret (OutS.one (L' := [.box b0 133 [va0, v0_1]]) rfl (Hp.le.refl _) S3 rfl ?_)
          exact ⟨rfl, rfl⟩
        · refine WL.valw (R.loadB (i := 0) (v := v0_1) S rfl rfl lay130 rfl) ?_
          refine WL.nil ?_
          refine WA.take (i := 9) #[true, true, true, true, false, true, true, true, true, true, false, false] rfl (by kernel_rfl) (by kernel_rfl) (by kernel_rfl) rfl (fun _ => (R.lenL (α := UInt8) (xs := s0_buf) (H := Hs) R0_1 rfl Tryz.underlying130)) ?_
          refine WA.one (i := 4) #[true, true, true, true, true, true, true, true, true, true, false, false] rfl (by kernel_rfl) rfl ?_
          refine W.sliceData (i := 1) S rfl rfl Tryz.underlying162 ?_
          intro v1 w3 hp2 S
          refine WL.nil ?_
          refine WA.one (i := 10) #[true, true, true, true, true, true, true, true, true, true, true, false] rfl (by kernel_rfl) rfl ?_
          refine W.strOf (i := 1) S rfl R0_1 hp2 rfl rfl Tryz.underlying162 ceo5 ?_
          intro w4 S
          refine WL.nil ?_
          refine WA.take (i := 11) #[true, true, true, true, true, true, true, true, true, true, true, true] rfl (by kernel_rfl) (by kernel_rfl) (by kernel_rfl) rfl (fun _ => (R.as (v := (str s0_buf)) rfl)) ?_
          refine WA.done (by kernel_rfl) ?_
          obtain rfl := Option.some.inj h
          have S3 := S
          have S3 := S3.front 0 rfl
          replace S3 : St w0 H0 _ Hs (.box b0 133 [va0, v0_1] :: L2) := S3
          replace S3 : St w0 H0 _ Hs (.box b0 133 [va0, v0_1] :: L2) := S3.drop _ (.cons_cons _ (.refl _))
          refine WP.ret (OutS.one (L' := [.box b0 133 [va0, v0_1]]) rfl (Hp.le.refl _) S3 rfl ?_)
          exact ⟨rfl, rfl⟩
      · refine WL.valw (R.loadB (i := 0) (v := v0_1) S rfl rfl lay130 rfl) ?_
        refine WL.nil ?_
        refine WA.take (i := 9) #[true, true, true, false, false, true, true, true, true, true, false, false] rfl (by kernel_rfl) (by kernel_rfl) (by kernel_rfl) rfl (fun _ => (R.lenL (α := UInt8) (xs := s0_buf) (H := Hs) R0_1 rfl Tryz.underlying130)) ?_
        refine WA.one (i := 3) #[true, true, true, true, false, true, true, true, true, true, false, false] rfl (by kernel_rfl) rfl ?_
        refine WL.valw (R.loadB (i := 0) (v := v0_1) S rfl rfl lay130 rfl) ?_
        refine WL.nil ?_
        refine WA.one (i := 4) #[true, true, true, true, true, true, true, true, true, true, false, false] rfl (by kernel_rfl) rfl ?_
        refine W.sliceData (i := 1) S rfl rfl Tryz.underlying162 ?_
        intro v1 w3 hp2 S
        refine WL.nil ?_
        refine WA.one (i := 10) #[true, true, true, true, true, true, true, true, true, true, true, false] rfl (by kernel_rfl) rfl ?_
        refine W.strOf (i := 1) S rfl R0_1 hp2 rfl rfl Tryz.underlying162 ceo5 ?_
        intro w4 S
        refine WL.nil ?_
        refine WA.take (i := 11) #[true, true, true, true, true, true, true, true, true, true, true, true] rfl (by kernel_rfl) (by kernel_rfl) (by kernel_rfl) rfl (fun _ => (R.as (v := (str s0_buf)) rfl)) ?_
        refine WA.done (by kernel_rfl) ?_
        obtain rfl := Option.some.inj h
        have S3 := S
        have S3 := S3.front 0 rfl
        replace S3 : St w0 H0 _ Hs (.box b0 133 [va0, v0_1] :: L2) := S3
        replace S3 : St w0 H0 _ Hs (.box b0 133 [va0, v0_1] :: L2) := S3.drop _ (.cons_cons _ (.refl _))
        refine WP.ret (OutS.one (L' := [.box b0 133 [va0, v0_1]]) rfl (Hp.le.refl _) S3 rfl ?_)
        exact ⟨rfl, rfl⟩
  · refine WL.valw (R.nilCheckB rfl) ?_
    refine WL.nil ?_
    refine WA.take (i := 7) #[true, false, false, false, false, true, true, true, false, false, false, false] rfl (by kernel_rfl) (by kernel_rfl) (by kernel_rfl) rfl (fun _ => (R.fieldB rfl fld133_1)) ?_
    refine WA.two (i := 1) (j := 8) #[true, true, false, false, false, true, true, true, false, false, false, false] #[true, false, false, false, false, true, true, true, true, false, false, false] rfl rfl (by kernel_rfl) rfl rfl ?_ ?_
    · refine WL.valw (R.nilCheckB rfl) ?_
      refine WL.nil ?_
      refine WA.take (i := 2) #[true, true, true, false, false, true, true, true, false, false, false, false] rfl (by kernel_rfl) (by kernel_rfl) (by kernel_rfl) rfl (fun _ => (R.fieldB rfl fld133_1)) ?_
      refine WA.two (i := 3) (j := 8) #[true, true, true, true, false, true, true, true, false, false, false, false] #[true, true, true, false, false, true, true, true, true, false, false, false] rfl rfl (by kernel_rfl) rfl rfl ?_ ?_
      · refine WL.valw (R.loadB (i := 0) (v := v0_1) S rfl rfl lay130 rfl) ?_
        refine WL.nil ?_
        refine WA.two (i := 4) (j := 8) #[true, true, true, true, true, true, true, true, false, false, false, false] #[true, true, true, true, false, true, true, true, true, false, false, false] rfl rfl (by kernel_rfl) rfl rfl ?_ ?_
        · refine W.sliceData (i := 1) S rfl rfl Tryz.underlying162 ?_
          intro v1 w3 hp2 S
          refine WL.nil ?_
          refine WA.one (i := 8) #[true, true, true, true, true, true, true, true, true, false, false, false] rfl (by kernel_rfl) rfl ?_
          refine WL.valw (R.loadB (i := 0) (v := v0_1) S rfl rfl lay130 rfl) ?_
          refine WL.nil ?_
          refine WA.take (i := 9) #[true, true, true, true, true, true, true, true, true, true, false, false] rfl (by kernel_rfl) (by kernel_rfl) (by kernel_rfl) rfl (fun _ => (R.lenL (α := UInt8) (xs := s0_buf) (H := Hs) R0_1 rfl Tryz.underlying130)) ?_
          refine WA.one (i := 10) #[true, true, true, true, true, true, true, true, true, true, true, false] rfl (by kernel_rfl) rfl ?_
          refine W.strOf (i := 1) S rfl R0_1 hp2 rfl rfl Tryz.underlying162 ceo5 ?_
          intro w4 S
          refine WL.nil ?_
          refine WA.take (i := 11) #[true, true, true, true, true, true, true, true, true, true, true, true] rfl (by kernel_rfl) (by kernel_rfl) (by kernel_rfl) rfl (fun _ => (R.as (v := (str s0_buf)) rfl)) ?_
          refine WA.done (by kernel_rfl) ?_
          obtain rfl := Option.some.inj h
          have S3 := S
          have S3 := S3.front 0 rfl
          replace S3 : St w0 H0 _ Hs (.box b0 133 [va0, v0_1] :: L2) := S3
          replace S3 : St w0 H0 _ Hs (.box b0 133 [va0, v0_1] :: L2) := S3.drop _ (.cons_cons _ (.refl _))
          refine WP.ret (OutS.one (L' := [.box b0 133 [va0, v0_1]]) rfl (Hp.le.refl _) S3 rfl ?_)
          exact ⟨rfl, rfl⟩
        · refine WL.valw (R.loadB (i := 0) (v := v0_1) S rfl rfl lay130 rfl) ?_
          refine WL.nil ?_
          refine WA.take (i := 9) #[true, true, true, true, false, true, true, true, true, true, false, false] rfl (by kernel_rfl) (by kernel_rfl) (by kernel_rfl) rfl (fun _ => (R.lenL (α := UInt8) (xs := s0_buf) (H := Hs) R0_1 rfl Tryz.underlying130)) ?_
          refine WA.one (i := 4) #[true, true, true, true, true, true, true, true, true, true, false, false] rfl (by kernel_rfl) rfl ?_
          refine W.sliceData (i := 1) S rfl rfl Tryz.underlying162 ?_
          intro v1 w3 hp2 S
          refine WL.nil ?_
          refine WA.one (i := 10) #[true, true, true, true, true, true, true, true, true, true, true, false] rfl (by kernel_rfl) rfl ?_
          refine W.strOf (i := 1) S rfl R0_1 hp2 rfl rfl Tryz.underlying162 ceo5 ?_
          intro w4 S
          refine WL.nil ?_
          refine WA.take (i := 11) #[true, true, true, true, true, true, true, true, true, true, true, true] rfl (by kernel_rfl) (by kernel_rfl) (by kernel_rfl) rfl (fun _ => (R.as (v := (str s0_buf)) rfl)) ?_
          refine WA.done (by kernel_rfl) ?_
          obtain rfl := Option.some.inj h
          have S3 := S
          have S3 := S3.front 0 rfl
          replace S3 : St w0 H0 _ Hs (.box b0 133 [va0, v0_1] :: L2) := S3
          replace S3 : St w0 H0 _ Hs (.box b0 133 [va0, v0_1] :: L2) := S3.drop _ (.cons_cons _ (.refl _))
          refine WP.ret (OutS.one (L' := [.box b0 133 [va0, v0_1]]) rfl (Hp.le.refl _) S3 rfl ?_)
          exact ⟨rfl, rfl⟩
      · refine WL.valw (R.loadB (i := 0) (v := v0_1) S rfl rfl lay130 rfl) ?_
        refine WL.nil ?_
        refine WA.take (i := 9) #[true, true, true, false, false, true, true, true, true, true, false, false] rfl (by kernel_rfl) (by kernel_rfl) (by kernel_rfl) rfl (fun _ => (R.lenL (α := UInt8) (xs := s0_buf) (H := Hs) R0_1 rfl Tryz.underlying130)) ?_
        refine WA.one (i := 3) #[true, true, true, true, false, true, true, true, true, true, false, false] rfl (by kernel_rfl) rfl ?_
        refine WL.valw (R.loadB (i := 0) (v := v0_1) S rfl rfl lay130 rfl) ?_
        refine WL.nil ?_
        refine WA.one (i := 4) #[true, true, true, true, true, true, true, true, true, true, false, false] rfl (by kernel_rfl) rfl ?_
        refine W.sliceData (i := 1) S rfl rfl Tryz.underlying162 ?_
        intro v1 w3 hp2 S
        refine WL.nil ?_
        refine WA.one (i := 10) #[true, true, true, true, true, true, true, true, true, true, true, false] rfl (by kernel_rfl) rfl ?_
        refine W.strOf (i := 1) S rfl R0_1 hp2 rfl rfl Tryz.underlying162 ceo5 ?_
        intro w4 S
        refine WL.nil ?_
        refine WA.take (i := 11) #[true, true, true, true, true, true, true, true, true, true, true, true] rfl (by kernel_rfl) (by kernel_rfl) (by kernel_rfl) rfl (fun _ => (R.as (v := (str s0_buf)) rfl)) ?_
        refine WA.done (by kernel_rfl) ?_
        obtain rfl := Option.some.inj h
        have S3 := S
        have S3 := S3.front 0 rfl
        replace S3 : St w0 H0 _ Hs (.box b0 133 [va0, v0_1] :: L2) := S3
        replace S3 : St w0 H0 _ Hs (.box b0 133 [va0, v0_1] :: L2) := S3.drop _ (.cons_cons _ (.refl _))
        refine WP.ret (OutS.one (L' := [.box b0 133 [va0, v0_1]]) rfl (Hp.le.refl _) S3 rfl ?_)
        exact ⟨rfl, rfl⟩
    · refine WL.valw (R.loadB (i := 0) (v := v0_1) S rfl rfl lay130 rfl) ?_
      refine WL.nil ?_
      refine WA.take (i := 9) #[true, false, false, false, false, true, true, true, true, true, false, false] rfl (by kernel_rfl) (by kernel_rfl) (by kernel_rfl) rfl (fun _ => (R.lenL (α := UInt8) (xs := s0_buf) (H := Hs) R0_1 rfl Tryz.underlying130)) ?_
      refine WA.one (i := 1) #[true, true, false, false, false, true, true, true, true, true, false, false] rfl (by kernel_rfl) rfl ?_
      refine WL.valw (R.nilCheckB rfl) ?_
      refine WL.nil ?_
      refine WA.take (i := 2) #[true, true, true, false, false, true, true, true, true, true, false, false] rfl (by kernel_rfl) (by kernel_rfl) (by kernel_rfl) rfl (fun _ => (R.fieldB rfl fld133_1)) ?_
      refine WA.one (i := 3) #[true, true, true, true, false, true, true, true, true, true, false, false] rfl (by kernel_rfl) rfl ?_
      refine WL.valw (R.loadB (i := 0) (v := v0_1) S rfl rfl lay130 rfl) ?_
      refine WL.nil ?_
      refine WA.one (i := 4) #[true, true, true, true, true, true, true, true, true, true, false, false] rfl (by kernel_rfl) rfl ?_
      refine W.sliceData (i := 1) S rfl rfl Tryz.underlying162 ?_
      intro v1 w3 hp2 S
      refine WL.nil ?_
      refine WA.one (i := 10) #[true, true, true, true, true, true, true, true, true, true, true, false] rfl (by kernel_rfl) rfl ?_
      refine W.strOf (i := 1) S rfl R0_1 hp2 rfl rfl Tryz.underlying162 ceo5 ?_
      intro w4 S
      refine WL.nil ?_
      refine WA.take (i := 11) #[true, true, true, true, true, true, true, true, true, true, true, true] rfl (by kernel_rfl) (by kernel_rfl) (by kernel_rfl) rfl (fun _ => (R.as (v := (str s0_buf)) rfl)) ?_
      refine WA.done (by kernel_rfl) ?_
      obtain rfl := Option.some.inj h
      have S3 := S
      have S3 := S3.front 0 rfl
      replace S3 : St w0 H0 _ Hs (.box b0 133 [va0, v0_1] :: L2) := S3
      replace S3 : St w0 H0 _ Hs (.box b0 133 [va0, v0_1] :: L2) := S3.drop _ (.cons_cons _ (.refl _))
      refine WP.ret (OutS.one (L' := [.box b0 133 [va0, v0_1]]) rfl (Hp.le.refl _) S3 rfl ?_)
      exact ⟨rfl, rfl⟩
set_option maxRecDepth 10000 in
set_option maxHeartbeats 4000000 in
theorem message_format_ok {w0 : World} {H0 : Hp} (hw : Holds w0 H0) (hG : Tryz.Gl w0) (p_start : Str) (p_fields : (List GField)) (p_length : Int) (p_body : Str) {vp_fields : Value} (Rp_fields : Sl (α := GField) H0 vp_fields p_fields) {r : Str} (h : message_format p_start p_fields p_length p_body = some r) :
    Con Tryz.prog 69 [(str p_start), vp_fields, (int p_length), (str p_body)] w0 H0 (fun H' v => v = (str r)) := by
  refine Con.mk (N := 64) Tryz.func69 rfl rfl (by kernel_rfl) rfl ?_
  have S := St.start hw
  refine WP.seq ?_
  refine WP.region ?_
  refine WL.valw (R.as (v := (str [])) rfl) ?_
  refine WL.nil ?_
  refine WP.seq ?_
  refine WP.seq ?_
  refine WP.region ?_
  refine WL.valw (R.mv (v := (str p_start)) rfl) ?_
  refine WL.valw (R.eqlS (a := p_start) (b := []) rfl rfl) ?_
  refine WL.nil ?_
  rcases condE h with ⟨hc1, h⟩ | ⟨hc1, h⟩
  · refine WP.condT rfl hc1 ?_
    refine WP.seq ?_
    refine WP.region ?_
    refine WL.valw (R.as (v := (str [])) rfl) ?_
    refine WL.nil ?_
    obtain rfl := Option.some.inj h
    refine WP.ret (Out.one rfl S rfl ?_)
    exact rfl
  · refine WP.condF rfl hc1 ?_
    refine WP.skip ?_
    refine WP.seq ?_
    refine WP.region ?_
    refine W.alloc [(.pointer none), (.slice none 0 0)] S zer133 ?_
    intro b2 w3 S
    refine WL.nil ?_
    refine WP.seq ?_
    refine WP.region ?_
    refine WL.valw (R.mv (v := (str p_start)) rfl) ?_
    obtain ⟨s4, hs4, h⟩ := bindE h
    refine WL.valw (R.cat (a := p_start) (b := [13, 10]) rfl rfl hs4) ?_
    obtain ⟨v5, hv6⟩ : ∃ v : Value, v = .slice none 0 0 := ⟨_, rfl⟩
    have R7 : Sl (α := UInt8) H0 v5 [] := by rw [hv6]; exact Sl.nil
    replace S := (show ∀ {w : World}, St w0 H0 w H0 [.box b2 133 [(.pointer none), (.slice none 0 0)]] → St w0 H0 w H0 [.box b2 133 [(.pointer none), v5]] from fun S => by rw [hv6]; exact S) S
    replace S := St.addNilV hv6 S 5 1
    replace S := S.front 1 rfl
    replace S : St w0 H0 _ H0 [.box b2 133 [(.pointer none), v5], .row v5 5 1 ([] : List UInt8).length] := S
    obtain ⟨r8, hr8, h⟩ := bindE h
    refine W.callS rfl (strings_Builder_WriteString__Builder_okS hG s4 ([] : List UInt8) S R7 (Or.inl rfl) hr8) ?_
    rintro v9 w10 H11 L13 hle12 S ⟨u14, u16, rfl, rfl, hv15, R17⟩
    replace S : St w0 H0 _ H11 [.box b2 133 [u14, u16], .row u16 5 1 r8.2.2.length] := S
    replace S := S.front 1 rfl
    replace S : St w0 H0 _ H11 [.row u16 5 1 r8.2.2.length, .box b2 133 [u14, u16]] := S
    have Rp_fields := Sl.mono Rp_fields hle12
    refine WL.nil ?_
    refine WP.seq ?_
    refine WP.region ?_
    refine WL.valw (R.as (v := (int 0)) rfl) ?_
    refine WL.nil ?_
    refine WP.seq ?_
    refine WP.seq ?_
    refine WP.region ?_
    refine WL.valw (R.mv (v := vp_fields) rfl) ?_
    refine WL.valw (R.lenL (α := GField) (xs := p_fields) (H := H11) Rp_fields rfl Tryz.underlying24) ?_
    refine WL.valw (R.mv (v := (int 0)) rfl) ?_
    refine WL.nil ?_
    obtain ⟨r45, hr46, h⟩ := bindE h
    refine WP.cut (fun f w => match r45 with | .inl m39 => ∃ (H33 : Hp) (v37 : Value) (v40 : Value), f 2 = (int p_length) ∧ f 3 = (str p_body) ∧ f 9 = (ptr b2 0) ∧ (v37 = Value.pointer none ∨ v37 = ptr b2 0) ∧ Sl (α := UInt8) H33 v40 m39 ∧ St w0 H0 w H33 [.row v40 5 1 m39.length, .box b2 133 [v37, v40]] | .inr _ => False) ?_ ?_
    · refine WP.block ?_
      refine WP.loopM (message_format_L0 p_fields) (fun s f w => match s with | (n_22, y_26, m30) => ∃ (H18 : Hp) (v28 : Value) (v31 : Value), f 2 = (int p_length) ∧ f 3 = (str p_body) ∧ f 9 = (ptr b2 0) ∧ f 10 = (int n_22) ∧ f 19 = vp_fields ∧ f 20 = (int (p_fields.length : Int)) ∧ f 21 = (int y_26) ∧ Sl (α := GField) H18 vp_fields p_fields ∧ (v28 = Value.pointer none ∨ v28 = ptr b2 0) ∧ Sl (α := UInt8) H18 v31 m30 ∧ St w0 H0 w H18 [.row v31 5 1 m30.length, .box b2 133 [v28, v31]]) (0, 0, r8.2.2) r45 hr46 ?_ ?_
      · exact ⟨H11, u14, u16, rfl, rfl, rfl, rfl, rfl, rfl, rfl, Rp_fields, hv15, R17, S⟩
      · intro s f w hI y42 hy43 hy44
        obtain ⟨n_22, y_26, m30⟩ := s
        obtain ⟨H18, v28, v31, h19, h20, h21, h23, h24, h25, h27, Rp_fields, hv29, R32, S⟩ := hI
        refine WP.seq ?_
        refine WP.region ?_
        refine WL.valw (R.lss h27 h25) ?_
        refine WL.nil ?_
        refine WP.seq ?_
        rcases condE hy43 with ⟨hc47, hy43⟩ | ⟨hc47, hy43⟩
        · refine WP.condT rfl hc47 ?_
          refine WP.skip ?_
          refine WP.seq ?_
          refine WP.block ?_
          refine WP.seq ?_
          refine WP.region ?_
          obtain ⟨x48, hx48, hy43⟩ := bindE hy43
          refine W.idx (α := GField) Rp_fields h24 h27 el24 hx48 ?_
          rintro a49 _ hA50 rfl
          refine WL.valw (R.loadHN (vs := [(str x48.fName), (str x48.fValue)]) S rfl hA50 lay53 rfl rfl) ?_
          refine W.alloc [(str []), (str [])] S zer53 ?_
          intro b51 w52 S
          refine W.store (i := 0) [(str x48.fName), (str x48.fValue)] S rfl rfl rfl lay53 rfl rfl (Nat.le_of_ble_eq_true rfl) rfl ?_
          intro w53 S
          refine WL.nil ?_
          refine WP.seq ?_
          refine WP.seq ?_
          refine WP.region ?_
          refine WL.valw (R.fieldB rfl fld53_0) ?_
          refine WL.valw (R.loadB (i := 0) (v := (str x48.fName)) S rfl rfl lay9 rfl) ?_
          obtain ⟨r54, hr54, hy43⟩ := bindE hy43
          refine W.call S rfl (ascii_Fold_ok S.holds (hG.post S.post) x48.fName [67, 111, 110, 116, 101, 110, 116, 45, 76, 101, 110, 103, 116, 104] hr54) ?_
          rintro v55 w56 H57 hle58 S rfl
          have Rp_fields := Sl.mono Rp_fields hle58
          have hA50 := At.mono hA50 hle58 (by simp)
          have R32 := Sl.mono R32 hle58
          refine WL.valw (R.mv (v := (boo r54)) rfl) ?_
          obtain ⟨b66, hg60, hy43⟩ := bindE hy43
          refine WL.grpw 4 [29, 30, 31] 32 (boo b66) (fun w => ∃ H' : Hp, H57.le H' ∧ St w0 H0 w H' [.box b51 53 [(str x48.fName), (str x48.fValue)], .row v31 5 1 m30.length, .box b2 133 [v28, v31]]) ?_ ?_
          · rcases boolE r54 with hb59 | hb59
            · replace hg60 := condT hg60 hb59
              refine WL.gno rfl rfl hb59 ?_
              refine WL.gno rfl rfl hb59 ?_
              refine WL.gno rfl rfl hb59 ?_
              refine WL.valw (R.pickT rfl hb59 rfl) ?_
              exact WL.nil ⟨(congrArg boo (Option.some.inj hg60)), (by repeat (first | refine agree_upd rfl ?_ | refine agree_upds' rfl ?_ | exact agree_refl)), ⟨H57, (Hp.le.refl _), S⟩⟩
            · replace hg60 := condF hg60 hb59
              refine WL.gyes rfl rfl hb59 ?_
              refine WL.valw (R.fieldB rfl fld53_0) ?_
              refine WL.gyes rfl rfl hb59 ?_
              refine WL.valw (R.loadB (i := 0) (v := (str x48.fName)) S rfl rfl lay9 rfl) ?_
              refine WL.gyes rfl rfl hb59 ?_
              obtain ⟨r61, hr61, hg60⟩ := bindE hg60
              refine W.call S rfl (ascii_Fold_ok S.holds (hG.post S.post) x48.fName [84, 114, 97, 110, 115, 102, 101, 114, 45, 69, 110, 99, 111, 100, 105, 110, 103] hr61) ?_
              rintro v62 w63 H64 hle65 S rfl
              have Rp_fields := Sl.mono Rp_fields hle65
              have hA50 := At.mono hA50 hle65 (by simp)
              have R32 := Sl.mono R32 hle65
              refine WL.valw (R.pickF rfl hb59 rfl) ?_
              exact WL.nil ⟨(congrArg boo (Option.some.inj hg60)), (by repeat (first | refine agree_upd rfl ?_ | refine agree_upds' rfl ?_ | exact agree_refl)), ⟨H64, hle65, S⟩⟩
          · intro us w68 ⟨H67, hle69, S⟩
            have Rp_fields := Sl.mono Rp_fields hle69
            have hA50 := At.mono hA50 hle69 (by simp)
            have R32 := Sl.mono R32 hle69
            refine WL.nil ?_
            rcases condE hy43 with ⟨hc70, hy43⟩ | ⟨hc70, hy43⟩
            · refine WP.condT rfl hc70 ?_
              refine WP.exit ?_
              refine WP.region ?_
              refine WL.valw (R.add h27 rfl) ?_
              refine WL.valw (R.mv (v := (int (wr (y_26 + 1)))) rfl) ?_
              refine WL.nil ?_
              obtain rfl := Option.some.inj hy43
              exact ⟨rfl, ⟨H67, v28, v31, h19, h20, h21, h23, h24, h25, rfl, Rp_fields, hv29, R32, (S.drop _ (.cons _ (.cons_cons _ (.cons_cons _ .slnil))))⟩⟩
            · refine WP.condF rfl hc70 ?_
              refine WP.skip ?_
              refine WP.seq ?_
              refine WP.region ?_
              refine WL.valw (R.mv (v := (int n_22)) h23) ?_
              refine WL.valw (R.add rfl rfl) ?_
              refine WL.valw (R.as (v := (int (wr (n_22 + 1)))) rfl) ?_
              refine WL.nil ?_
              refine WP.seq ?_
              refine WP.region ?_
              refine WL.valw (R.loadBN (i := 0) (vs := [(str x48.fName), (str x48.fValue)]) S rfl rfl lay53 rfl rfl) ?_
              obtain ⟨r71, hr71, hy43⟩ := bindE hy43
              refine W.call S rfl (fieldline_Format_ok S.holds (hG.post S.post) x48 hr71) ?_
              rintro v72 w73 H74 hle75 S rfl
              have Rp_fields := Sl.mono Rp_fields hle75
              have hA50 := At.mono hA50 hle75 (by simp)
              have R32 := Sl.mono R32 hle75
              refine WL.valw (R.as (v := (str r71)) rfl) ?_
              refine WL.nil ?_
              refine WP.seq ?_
              refine WP.seq ?_
              refine WP.region ?_
              refine WL.valw (R.mv (v := (str r71)) rfl) ?_
              refine WL.valw (R.eqlS (a := r71) (b := []) rfl rfl) ?_
              refine WL.valw (R.mv (v := (boo (r71 == []))) rfl) ?_
              refine WL.grp 3 [40, 41] 42 (boo ((r71 == []) || (decide (64 ≤ (wr (n_22 + 1)))))) ?_ ?_
              · rcases boolE (r71 == []) with hb76 | hb76
                · refine WL.gno rfl rfl hb76 ?_
                  refine WL.gno rfl rfl hb76 ?_
                  refine WL.valw (R.pickT rfl hb76 rfl) ?_
                  exact WL.nil ⟨(orT hb76), (by repeat (first | refine agree_upd rfl ?_ | refine agree_upds' rfl ?_ | exact agree_refl)), rfl⟩
                · refine WL.gyes rfl rfl hb76 ?_
                  refine WL.valw (R.mv (v := (int (wr (n_22 + 1)))) rfl) ?_
                  refine WL.gyes rfl rfl hb76 ?_
                  refine WL.valw (R.geq rfl rfl) ?_
                  refine WL.valw (R.pickF rfl hb76 rfl) ?_
                  exact WL.nil ⟨(orF hb76), (by repeat (first | refine agree_upd rfl ?_ | refine agree_upds' rfl ?_ | exact agree_refl)), rfl⟩
              · intro us
                refine WL.valw (R.mv (v := (boo ((r71 == []) || (decide (64 ≤ (wr (n_22 + 1))))))) rfl) ?_
                obtain ⟨b86, hg79, hy43⟩ := bindE hy43
                refine WL.grpw 3 [44, 45] 46 (boo b86) (fun w => ∃ H' : Hp, H74.le H' ∧ St w0 H0 w H' [.box b51 53 [(str x48.fName), (str x48.fValue)], .row v31 5 1 m30.length, .box b2 133 [v28, v31]]) ?_ ?_
                · rcases boolE ((r71 == []) || (decide (64 ≤ (wr (n_22 + 1))))) with hb78 | hb78
                  · replace hg79 := condT hg79 hb78
                    refine WL.gno rfl rfl hb78 ?_
                    refine WL.gno rfl rfl hb78 ?_
                    refine WL.valw (R.pickT rfl hb78 rfl) ?_
                    exact WL.nil ⟨(congrArg boo (Option.some.inj hg79)), (by repeat (first | refine agree_upd rfl ?_ | refine agree_upds' rfl ?_ | exact agree_refl)), ⟨H74, (Hp.le.refl _), S⟩⟩
                  · replace hg79 := condF hg79 hb78
                    refine WL.gyes rfl rfl hb78 ?_
                    replace S := S.front 1 rfl
                    replace S := S.front 2 rfl
                    replace S : St w0 H0 _ H74 [.box b2 133 [v28, v31], .row v31 5 1 m30.length, .box b51 53 [(str x48.fName), (str x48.fValue)]] := S
                    obtain ⟨r80, hr80, hg79⟩ := bindE hg79
                    refine W.callS (mapC h21 mapN) (strings_Builder_Len__Builder_okS hG m30 S R32 hv29 hr80) ?_
                    rintro v81 w82 H83 L85 hle84 S ⟨rfl, rfl⟩
                    replace S : St w0 H0 _ H83 [.box b2 133 [v28, v31], .row v31 5 1 m30.length, .box b51 53 [(str x48.fName), (str x48.fValue)]] := S
                    replace S := S.front 1 rfl
                    replace S := S.front 2 rfl
                    replace S : St w0 H0 _ H83 [.box b51 53 [(str x48.fName), (str x48.fValue)], .row v31 5 1 m30.length, .box b2 133 [v28, v31]] := S
                    have Rp_fields := Sl.mono Rp_fields hle84
                    have hA50 := At.mono hA50 hle84 (by simp)
                    have R32 := Sl.mono R32 hle84
                    refine WL.gyes rfl rfl hb78 ?_
                    refine WL.valw (R.gtr rfl rfl) ?_
                    refine WL.valw (R.pickF rfl hb78 rfl) ?_
                    exact WL.nil ⟨(congrArg boo (Option.some.inj hg79)), (by repeat (first | refine agree_upd rfl ?_ | refine agree_upds' rfl ?_ | exact agree_refl)), ⟨H83, hle84, S⟩⟩
                · intro us w88 ⟨H87, hle89, S⟩
                  have Rp_fields := Sl.mono Rp_fields hle89
                  have hA50 := At.mono hA50 hle89 (by simp)
                  have R32 := Sl.mono R32 hle89
                  refine WL.nil ?_
                  rcases condE hy43 with ⟨hc90, hy43⟩ | ⟨hc90, hy43⟩
                  · refine WP.condT rfl hc90 ?_
                    refine WP.seq ?_
                    refine WP.region ?_
                    refine WL.valw (R.as (v := (str [])) rfl) ?_
                    refine WL.nil ?_
                    obtain rfl := Option.some.inj hy43
                    obtain rfl := hy44
                    obtain rfl := Option.some.inj h
                    refine WP.ret (Out.one rfl S rfl ?_)
                    exact rfl
                  · refine WP.condF rfl hc90 ?_
                    refine WP.skip ?_
                    refine WP.region ?_
                    refine WL.valw (R.mv (v := (str r71)) rfl) ?_
                    obtain ⟨s91, hs91, hy43⟩ := bindE hy43
                    refine WL.valw (R.cat (a := r71) (b := [13, 10]) rfl rfl hs91) ?_
                    replace S := S.front 1 rfl
                    replace S := S.front 2 rfl
                    replace S : St w0 H0 _ H87 [.box b2 133 [v28, v31], .row v31 5 1 m30.length, .box b51 53 [(str x48.fName), (str x48.fValue)]] := S
                    obtain ⟨r92, hr92, hy43⟩ := bindE hy43
                    refine W.callS (mapC h21 (mapC rfl mapN)) (strings_Builder_WriteString__Builder_okS hG s91 m30 S R32 hv29 hr92) ?_
                    rintro v93 w94 H95 L97 hle96 S ⟨u98, u100, rfl, rfl, hv99, R101⟩
                    replace S : St w0 H0 _ H95 [.box b2 133 [u98, u100], .row u100 5 1 r92.2.2.length, .box b51 53 [(str x48.fName), (str x48.fValue)]] := S
                    replace S := S.front 1 rfl
                    replace S := S.front 2 rfl
                    replace S : St w0 H0 _ H95 [.box b51 53 [(str x48.fName), (str x48.fValue)], .row u100 5 1 r92.2.2.length, .box b2 133 [u98, u100]] := S
                    have Rp_fields := Sl.mono Rp_fields hle96
                    have hA50 := At.mono hA50 hle96 (by simp)
                    refine WL.nil ?_
                    refine WP.region ?_
                    refine WL.valw (R.add h27 rfl) ?_
                    refine WL.valw (R.mv (v := (int (wr (y_26 + 1)))) rfl) ?_
                    refine WL.nil ?_
                    obtain rfl := Option.some.inj hy43
                    exact ⟨rfl, ⟨H95, u98, u100, h19, h20, h21, rfl, h24, h25, rfl, Rp_fields, hv99, R101, (S.drop _ (.cons _ (.cons_cons _ (.cons_cons _ .slnil))))⟩⟩
        · refine WP.condF rfl hc47 ?_
          refine WP.exit ?_
          obtain rfl := Option.some.inj hy43
          obtain rfl := hy44
          exact ⟨H18, v28, v31, h19, h20, h21, hv29, R32, S⟩
    · intro f w hM
      rcases r45 with m39 | e
      · obtain ⟨H33, v37, v40, h34, h35, h36, hv38, R41, S⟩ := hM
        refine WP.seq ?_
        refine WP.seq ?_
        refine WP.region ?_
        refine WL.valw (R.mv (v := (int p_length)) h34) ?_
        refine WL.valw (R.geq rfl rfl) ?_
        refine WL.nil ?_
        obtain ⟨m107, hj110, h⟩ := bindE h
        refine WP.cut (fun f w => ∃ (H102 : Hp) (v105 : Value) (v108 : Value), f 3 = (str p_body) ∧ f 9 = (ptr b2 0) ∧ (v105 = Value.pointer none ∨ v105 = ptr b2 0) ∧ Sl (α := UInt8) H102 v108 m107 ∧ St w0 H0 w H102 [.row v108 5 1 m107.length, .box b2 133 [v105, v108]]) ?_ ?_
        · rcases condE hj110 with ⟨hc112, hj110⟩ | ⟨hc112, hj110⟩
          · refine WP.condT rfl hc112 ?_
            refine WP.region ?_
            refine WL.valw (R.mv (v := (int p_length)) h34) ?_
            obtain ⟨r113, hr113, hj110⟩ := bindE hj110
            refine W.call S rfl (ascii_Decimal_ok S.holds (hG.post S.post) p_length hr113) ?_
            rintro v114 w115 H116 hle117 S rfl
            have R41 := Sl.mono R41 hle117
            obtain ⟨s118, hs118, hj110⟩ := bindE hj110
            refine WL.valw (R.cat (a := [67, 111, 110, 116, 101, 110, 116, 45, 76, 101, 110, 103, 116, 104, 58, 32]) (b := r113) rfl rfl hs118) ?_
            obtain ⟨s119, hs119, hj110⟩ := bindE hj110
            refine WL.valw (R.cat (a := s118) (b := [13, 10]) rfl rfl hs119) ?_
            replace S := S.front 1 rfl
            replace S : St w0 H0 _ H116 [.box b2 133 [v37, v40], .row v40 5 1 m39.length] := S
            obtain ⟨r120, hr120, hj110⟩ := bindE hj110
            refine W.callS (mapC h36 (mapC rfl mapN)) (strings_Builder_WriteString__Builder_okS hG s119 m39 S R41 hv38 hr120) ?_
            rintro v121 w122 H123 L125 hle124 S ⟨u126, u128, rfl, rfl, hv127, R129⟩
            replace S : St w0 H0 _ H123 [.box b2 133 [u126, u128], .row u128 5 1 r120.2.2.length] := S
            replace S := S.front 1 rfl
            replace S : St w0 H0 _ H123 [.row u128 5 1 r120.2.2.length, .box b2 133 [u126, u128]] := S
            refine WL.nil ?_
            obtain rfl := Option.some.inj hj110
            exact ⟨H123, u126, u128, h35, h36, hv127, R129, S⟩
          · refine WP.condF rfl hc112 ?_
            refine WP.skip ?_
            obtain rfl := Option.some.inj hj110
            exact ⟨H33, v37, v40, h35, h36, hv38, R41, S⟩
        · rintro f w ⟨H102, v105, v108, h103, h104, hv106, R109, S⟩
          refine WP.seq ?_
          refine WP.region ?_
          replace S := S.front 1 rfl
          replace S : St w0 H0 _ H102 [.box b2 133 [v105, v108], .row v108 5 1 m107.length] := S
          obtain ⟨r130, hr130, h⟩ := bindE h
          refine W.callS (mapC h104 (mapC rfl mapN)) (strings_Builder_WriteString__Builder_okS hG [13, 10] m107 S R109 hv106 hr130) ?_
          rintro v131 w132 H133 L135 hle134 S ⟨u136, u138, rfl, rfl, hv137, R139⟩
          replace S : St w0 H0 _ H133 [.box b2 133 [u136, u138], .row u138 5 1 r130.2.2.length] := S
          replace S := S.front 1 rfl
          replace S : St w0 H0 _ H133 [.row u138 5 1 r130.2.2.length, .box b2 133 [u136, u138]] := S
          refine WL.nil ?_
          refine WP.seq ?_
          refine WP.seq ?_
          refine WP.region ?_
          replace S := S.front 1 rfl
          replace S : St w0 H0 _ H133 [.box b2 133 [u136, u138], .row u138 5 1 r130.2.2.length] := S
          obtain ⟨r140, hr140, h⟩ := bindE h
          refine W.callS (mapC h104 mapN) (strings_Builder_Len__Builder_okS hG r130.2.2 S R139 hv137 hr140) ?_
          rintro v141 w142 H143 L145 hle144 S ⟨rfl, rfl⟩
          replace S : St w0 H0 _ H143 [.box b2 133 [u136, u138], .row u138 5 1 r130.2.2.length] := S
          replace S := S.front 1 rfl
          replace S : St w0 H0 _ H143 [.row u138 5 1 r130.2.2.length, .box b2 133 [u136, u138]] := S
          have R139 := Sl.mono R139 hle144
          refine WL.valw (R.gtr rfl rfl) ?_
          refine WL.nil ?_
          rcases condE h with ⟨hc146, h⟩ | ⟨hc146, h⟩
          · refine WP.condT rfl hc146 ?_
            refine WP.seq ?_
            refine WP.region ?_
            refine WL.valw (R.as (v := (str [])) rfl) ?_
            refine WL.nil ?_
            obtain rfl := Option.some.inj h
            refine WP.ret (Out.one rfl S rfl ?_)
            exact rfl
          · refine WP.condF rfl hc146 ?_
            refine WP.skip ?_
            refine WP.seq ?_
            refine WP.region ?_
            replace S := S.front 1 rfl
            replace S : St w0 H0 _ H143 [.box b2 133 [u136, u138], .row u138 5 1 r130.2.2.length] := S
            obtain ⟨r147, hr147, h⟩ := bindE h
            refine W.callS (mapC h104 mapN) (strings_Builder_String__Builder_okS hG r130.2.2 S R139 hv137 hr147) ?_
            rintro v148 w149 H150 L152 hle151 S ⟨rfl, rfl⟩
            replace S : St w0 H0 _ H150 [.box b2 133 [u136, u138]] := S
            have R139 := Sl.mono R139 hle151
            refine WL.valw (R.mv (v := (str p_body)) h103) ?_
            obtain ⟨s153, hs153, h⟩ := bindE h
            refine WL.valw (R.cat (a := r147) (b := p_body) rfl rfl hs153) ?_
            refine WL.valw (R.as (v := (str s153)) rfl) ?_
            refine WL.nil ?_
            obtain rfl := Option.some.inj h
            refine WP.ret (Out.one rfl S rfl ?_)
            exact rfl
      · exact hM.elim
end Go.Proofs
