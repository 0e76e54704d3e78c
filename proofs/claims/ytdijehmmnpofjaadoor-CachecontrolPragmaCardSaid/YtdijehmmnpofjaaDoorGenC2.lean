/- A part of the proof of laws of the seat: written by program over the translation. -/
import Derived.Test.YtdijehmmnpofjaaDoorGenC1
namespace Go.Proofs
open Go.Eng Go.Eng.Pure
set_option linter.unusedVariables false
set_option maxRecDepth 10000 in
set_option maxHeartbeats 4000000 in
theorem strings_trimRightByte_ok {w0 : World} {H0 : Hp} (hw : Holds w0 H0) (p_s : Str) (p_c : UInt8) {r : Str} (h : strings_trimRightByte p_s p_c = some r) :
    Con Tryd.prog 91 [(str p_s), (byt p_c)] w0 H0 (fun H' v => v = (str r)) := by
  refine Con.mk (N := 23) Tryd.func91 rfl rfl (by kernel_rfl) rfl ?_
  have S := St.start hw
  refine WP.seq ?_
  refine WP.region ?_
  refine WL.valw (R.as (v := (str [])) rfl) ?_
  refine WL.nil ?_
  refine WP.seq ?_
  obtain ⟨s_6, hr12, h⟩ := bindE h
  refine WP.cut (fun f w => ∃ (H5 : Hp), f 0 = (str s_6) ∧ St w0 H0 w H5 []) ?_ ?_
  · refine WP.block ?_
    refine WP.loopM (strings_trimRightByte_L0 p_c) (fun s f w => match s with | s_2 => ∃ (H1 : Hp), f 0 = (str s_2) ∧ f 1 = (byt p_c) ∧ St w0 H0 w H1 []) p_s s_6 hr12 ?_ ?_
    · exact ⟨H0, rfl, rfl, S⟩
    · intro s_2 f w hI y8 hy9 hy10
      obtain ⟨H1, h3, h4, S⟩ := hI
      refine WP.seq ?_
      refine WP.seq ?_
      refine WP.region ?_
      refine WL.valw (R.mv (v := (str s_2)) h3) ?_
      refine WL.valw (R.lenS (a := s_2) rfl Tryd.underlying9) ?_
      refine WL.valw (R.gtr rfl rfl) ?_
      refine WL.valw (R.mv (v := (boo (decide (0 < (s_2.length : Int))))) rfl) ?_
      obtain ⟨b16, hg14, hy9⟩ := bindE hy9
      refine WL.grp 8 [9, 10, 11, 12, 13, 14, 15] 16 (boo b16) ?_ ?_
      · rcases boolE (decide (0 < (s_2.length : Int))) with hb13 | hb13
        · replace hg14 := condT hg14 hb13
          refine WL.gyes rfl rfl hb13 ?_
          refine WL.valw (R.mv (v := (str s_2)) h3) ?_
          refine WL.gyes rfl rfl hb13 ?_
          refine WL.valw (R.mv (v := (str s_2)) h3) ?_
          refine WL.gyes rfl rfl hb13 ?_
          refine WL.valw (R.lenS (a := s_2) rfl Tryd.underlying9) ?_
          refine WL.gyes rfl rfl hb13 ?_
          refine WL.valw (R.sub rfl rfl) ?_
          refine WL.gyes rfl rfl hb13 ?_
          obtain ⟨c15, hc15, hg14⟩ := bindE hg14
          refine WL.valw (R.idxS rfl rfl Tryd.underlying9 hc15) ?_
          refine WL.gyes rfl rfl hb13 ?_
          refine WL.valw (R.mv (v := (byt p_c)) h4) ?_
          refine WL.gyes rfl rfl hb13 ?_
          refine WL.valw (R.eql8 (a := c15) (b := p_c) rfl rfl) ?_
          refine WL.valw (R.pickT rfl hb13 rfl) ?_
          exact WL.nil ⟨(congrArg boo (Option.some.inj hg14)), (by repeat (first | refine agree_upd rfl ?_ | refine agree_upds' rfl ?_ | exact agree_refl)), rfl⟩
        · replace hg14 := condF hg14 hb13
          refine WL.gno rfl rfl hb13 ?_
          refine WL.gno rfl rfl hb13 ?_
          refine WL.gno rfl rfl hb13 ?_
          refine WL.gno rfl rfl hb13 ?_
          refine WL.gno rfl rfl hb13 ?_
          refine WL.gno rfl rfl hb13 ?_
          refine WL.gno rfl rfl hb13 ?_
          refine WL.valw (R.pickF rfl hb13 rfl) ?_
          exact WL.nil ⟨(congrArg boo (Option.some.inj hg14)), (by repeat (first | refine agree_upd rfl ?_ | refine agree_upds' rfl ?_ | exact agree_refl)), rfl⟩
      · intro us
        refine WL.nil ?_
        rcases condE hy9 with ⟨hc17, hy9⟩ | ⟨hc17, hy9⟩
        · refine WP.condT rfl hc17 ?_
          refine WP.skip ?_
          refine WP.block ?_
          refine WP.region ?_
          refine WL.valw (R.mv (v := (str s_2)) h3) ?_
          refine WL.valw (R.mv (v := (str s_2)) h3) ?_
          refine WL.valw (R.lenS (a := s_2) rfl Tryd.underlying9) ?_
          refine WL.valw (R.sub rfl rfl) ?_
          obtain ⟨s18, hs18, hy9⟩ := bindE hy9
          refine WL.valw (R.subShi rfl rfl Tryd.underlying9 hs18) ?_
          refine WL.valw (R.as (v := (str s18)) rfl) ?_
          refine WL.nil ?_
          obtain rfl := Option.some.inj hy9
          exact ⟨rfl, ⟨H1, rfl, h4, S⟩⟩
        · refine WP.condF rfl hc17 ?_
          refine WP.exit ?_
          obtain rfl := Option.some.inj hy9
          obtain rfl := hy10
          exact ⟨H1, h3, S⟩
  · rintro f w ⟨H5, h7, S⟩
    refine WP.seq ?_
    refine WP.region ?_
    refine WL.valw (R.mv (v := (str s_6)) h7) ?_
    refine WL.valw (R.as (v := (str s_6)) rfl) ?_
    refine WL.nil ?_
    obtain rfl := Option.some.inj h
    refine WP.ret (Out.one rfl S rfl ?_)
    exact rfl
set_option maxRecDepth 10000 in
set_option maxHeartbeats 4000000 in
theorem strings_trimLeftByte_ok {w0 : World} {H0 : Hp} (hw : Holds w0 H0) (p_s : Str) (p_c : UInt8) {r : Str} (h : strings_trimLeftByte p_s p_c = some r) :
    Con Tryd.prog 90 [(str p_s), (byt p_c)] w0 H0 (fun H' v => v = (str r)) := by
  refine Con.mk (N := 17) Tryd.func90 rfl rfl (by kernel_rfl) rfl ?_
  have S := St.start hw
  refine WP.seq ?_
  refine WP.region ?_
  refine WL.valw (R.as (v := (str [])) rfl) ?_
  refine WL.nil ?_
  refine WP.seq ?_
  obtain ⟨s_6, hr12, h⟩ := bindE h
  refine WP.cut (fun f w => ∃ (H5 : Hp), f 0 = (str s_6) ∧ St w0 H0 w H5 []) ?_ ?_
  · refine WP.block ?_
    refine WP.loopM (strings_trimLeftByte_L0 p_c) (fun s f w => match s with | s_2 => ∃ (H1 : Hp), f 0 = (str s_2) ∧ f 1 = (byt p_c) ∧ St w0 H0 w H1 []) p_s s_6 hr12 ?_ ?_
    · exact ⟨H0, rfl, rfl, S⟩
    · intro s_2 f w hI y8 hy9 hy10
      obtain ⟨H1, h3, h4, S⟩ := hI
      refine WP.seq ?_
      refine WP.seq ?_
      refine WP.region ?_
      refine WL.valw (R.mv (v := (str s_2)) h3) ?_
      refine WL.valw (R.lenS (a := s_2) rfl Tryd.underlying9) ?_
      refine WL.valw (R.gtr rfl rfl) ?_
      refine WL.valw (R.mv (v := (boo (decide (0 < (s_2.length : Int))))) rfl) ?_
      obtain ⟨b16, hg14, hy9⟩ := bindE hy9
      refine WL.grp 5 [9, 10, 11, 12] 13 (boo b16) ?_ ?_
      · rcases boolE (decide (0 < (s_2.length : Int))) with hb13 | hb13
        · replace hg14 := condT hg14 hb13
          refine WL.gyes rfl rfl hb13 ?_
          refine WL.valw (R.mv (v := (str s_2)) h3) ?_
          refine WL.gyes rfl rfl hb13 ?_
          obtain ⟨c15, hc15, hg14⟩ := bindE hg14
          refine WL.valw (R.idxS rfl rfl Tryd.underlying9 hc15) ?_
          refine WL.gyes rfl rfl hb13 ?_
          refine WL.valw (R.mv (v := (byt p_c)) h4) ?_
          refine WL.gyes rfl rfl hb13 ?_
          refine WL.valw (R.eql8 (a := c15) (b := p_c) rfl rfl) ?_
          refine WL.valw (R.pickT rfl hb13 rfl) ?_
          exact WL.nil ⟨(congrArg boo (Option.some.inj hg14)), (by repeat (first | refine agree_upd rfl ?_ | refine agree_upds' rfl ?_ | exact agree_refl)), rfl⟩
        · replace hg14 := condF hg14 hb13
          refine WL.gno rfl rfl hb13 ?_
          refine WL.gno rfl rfl hb13 ?_
          refine WL.gno rfl rfl hb13 ?_
          refine WL.gno rfl rfl hb13 ?_
          refine WL.valw (R.pickF rfl hb13 rfl) ?_
          exact WL.nil ⟨(congrArg boo (Option.some.inj hg14)), (by repeat (first | refine agree_upd rfl ?_ | refine agree_upds' rfl ?_ | exact agree_refl)), rfl⟩
      · intro us
        refine WL.nil ?_
        rcases condE hy9 with ⟨hc17, hy9⟩ | ⟨hc17, hy9⟩
        · refine WP.condT rfl hc17 ?_
          refine WP.skip ?_
          refine WP.block ?_
          refine WP.region ?_
          refine WL.valw (R.mv (v := (str s_2)) h3) ?_
          obtain ⟨s18, hs18, hy9⟩ := bindE hy9
          refine WL.valw (R.subSlo rfl rfl Tryd.underlying9 hs18) ?_
          refine WL.valw (R.as (v := (str s18)) rfl) ?_
          refine WL.nil ?_
          obtain rfl := Option.some.inj hy9
          exact ⟨rfl, ⟨H1, rfl, h4, S⟩⟩
        · refine WP.condF rfl hc17 ?_
          refine WP.exit ?_
          obtain rfl := Option.some.inj hy9
          obtain rfl := hy10
          exact ⟨H1, h3, S⟩
  · rintro f w ⟨H5, h7, S⟩
    refine WP.seq ?_
    refine WP.region ?_
    refine WL.valw (R.mv (v := (str s_6)) h7) ?_
    refine WL.valw (R.as (v := (str s_6)) rfl) ?_
    refine WL.nil ?_
    obtain rfl := Option.some.inj h
    refine WP.ret (Out.one rfl S rfl ?_)
    exact rfl
set_option maxRecDepth 10000 in
set_option maxHeartbeats 4000000 in
theorem strings_trimRightASCII_ok {w0 : World} {H0 : Hp} (hw : Holds w0 H0) (p_s : Str) (p_as : Str) {bp_as : Nat} (Ap_as : At H0 ⟨bp_as, 0, none⟩ (setc p_as)) {r : Str} (h : strings_trimRightASCII p_s p_as = some r) :
    Con Tryd.prog 94 [(str p_s), (ptr bp_as 0)] w0 H0 (fun H' v => v = (str r)) := by
  refine Con.mk (N := 22) Tryd.func94 rfl rfl (by kernel_rfl) rfl ?_
  have S := St.start hw
  refine WP.seq ?_
  refine WP.region ?_
  refine WL.valw (R.as (v := (str [])) rfl) ?_
  refine WL.nil ?_
  refine WP.seq ?_
  obtain ⟨s_6, hr12, h⟩ := bindE h
  refine WP.cut (fun f w => ∃ (H5 : Hp), f 0 = (str s_6) ∧ St w0 H0 w H5 []) ?_ ?_
  · refine WP.block ?_
    refine WP.loopM (strings_trimRightASCII_L0 p_as) (fun s f w => match s with | s_2 => ∃ (H1 : Hp), f 0 = (str s_2) ∧ f 1 = (ptr bp_as 0) ∧ At H1 ⟨bp_as, 0, none⟩ (setc p_as) ∧ St w0 H0 w H1 []) p_s s_6 hr12 ?_ ?_
    · exact ⟨H0, rfl, rfl, Ap_as, S⟩
    · intro s_2 f w hI y8 hy9 hy10
      obtain ⟨H1, h3, h4, Ap_as, S⟩ := hI
      refine WP.seq ?_
      refine WP.seq ?_
      refine WP.region ?_
      refine WL.valw (R.mv (v := (str s_2)) h3) ?_
      refine WL.valw (R.lenS (a := s_2) rfl Tryd.underlying9) ?_
      refine WL.valw (R.gtr rfl rfl) ?_
      refine WL.nil ?_
      rcases condE hy9 with ⟨hc13, hy9⟩ | ⟨hc13, hy9⟩
      · refine WP.condT rfl hc13 ?_
        refine WP.skip ?_
        refine WP.block ?_
        refine WP.seq ?_
        refine WP.seq ?_
        refine WP.region ?_
        refine WL.valw (R.mv (v := (ptr bp_as 0)) h4) ?_
        refine WL.valw (R.mv (v := (str s_2)) h3) ?_
        refine WL.valw (R.mv (v := (str s_2)) h3) ?_
        refine WL.valw (R.lenS (a := s_2) rfl Tryd.underlying9) ?_
        refine WL.valw (R.sub rfl rfl) ?_
        obtain ⟨c14, hc14, hy9⟩ := bindE hy9
        refine WL.valw (R.idxS rfl rfl Tryd.underlying9 hc14) ?_
        obtain ⟨r15, hr15, hy9⟩ := bindE hy9
        refine W.call S rfl (strings_asciiSet_contains_ok S.holds p_as c14 Ap_as hr15) ?_
        rintro v16 w17 H18 hle19 S rfl
        have Ap_as := At.mono Ap_as hle19 (by intro h; have := congrArg List.length h; rw [setc_len] at this; cases this)
        refine WL.valw (R.not rfl) ?_
        refine WL.nil ?_
        rcases condE hy9 with ⟨hc20, hy9⟩ | ⟨hc20, hy9⟩
        · refine WP.condT rfl hc20 ?_
          refine WP.exit ?_
          obtain rfl := Option.some.inj hy9
          obtain rfl := hy10
          exact ⟨H18, h3, S⟩
        · refine WP.condF rfl hc20 ?_
          refine WP.skip ?_
          refine WP.region ?_
          refine WL.valw (R.mv (v := (str s_2)) h3) ?_
          refine WL.valw (R.mv (v := (str s_2)) h3) ?_
          refine WL.valw (R.lenS (a := s_2) rfl Tryd.underlying9) ?_
          refine WL.valw (R.sub rfl rfl) ?_
          obtain ⟨s21, hs21, hy9⟩ := bindE hy9
          refine WL.valw (R.subShi rfl rfl Tryd.underlying9 hs21) ?_
          refine WL.valw (R.as (v := (str s21)) rfl) ?_
          refine WL.nil ?_
          obtain rfl := Option.some.inj hy9
          exact ⟨rfl, ⟨H18, rfl, h4, Ap_as, S⟩⟩
      · refine WP.condF rfl hc13 ?_
        refine WP.exit ?_
        obtain rfl := Option.some.inj hy9
        obtain rfl := hy10
        exact ⟨H1, h3, S⟩
  · rintro f w ⟨H5, h7, S⟩
    refine WP.seq ?_
    refine WP.region ?_
    refine WL.valw (R.mv (v := (str s_6)) h7) ?_
    refine WL.valw (R.as (v := (str s_6)) rfl) ?_
    refine WL.nil ?_
    obtain rfl := Option.some.inj h
    refine WP.ret (Out.one rfl S rfl ?_)
    exact rfl
set_option maxRecDepth 10000 in
set_option maxHeartbeats 4000000 in
theorem strings_trimLeftASCII_ok {w0 : World} {H0 : Hp} (hw : Holds w0 H0) (p_s : Str) (p_as : Str) {bp_as : Nat} (Ap_as : At H0 ⟨bp_as, 0, none⟩ (setc p_as)) {r : Str} (h : strings_trimLeftASCII p_s p_as = some r) :
    Con Tryd.prog 93 [(str p_s), (ptr bp_as 0)] w0 H0 (fun H' v => v = (str r)) := by
  refine Con.mk (N := 16) Tryd.func93 rfl rfl (by kernel_rfl) rfl ?_
  have S := St.start hw
  refine WP.seq ?_
  refine WP.region ?_
  refine WL.valw (R.as (v := (str [])) rfl) ?_
  refine WL.nil ?_
  refine WP.seq ?_
  obtain ⟨s_6, hr12, h⟩ := bindE h
  refine WP.cut (fun f w => ∃ (H5 : Hp), f 0 = (str s_6) ∧ St w0 H0 w H5 []) ?_ ?_
  · refine WP.block ?_
    refine WP.loopM (strings_trimLeftASCII_L0 p_as) (fun s f w => match s with | s_2 => ∃ (H1 : Hp), f 0 = (str s_2) ∧ f 1 = (ptr bp_as 0) ∧ At H1 ⟨bp_as, 0, none⟩ (setc p_as) ∧ St w0 H0 w H1 []) p_s s_6 hr12 ?_ ?_
    · exact ⟨H0, rfl, rfl, Ap_as, S⟩
    · intro s_2 f w hI y8 hy9 hy10
      obtain ⟨H1, h3, h4, Ap_as, S⟩ := hI
      refine WP.seq ?_
      refine WP.seq ?_
      refine WP.region ?_
      refine WL.valw (R.mv (v := (str s_2)) h3) ?_
      refine WL.valw (R.lenS (a := s_2) rfl Tryd.underlying9) ?_
      refine WL.valw (R.gtr rfl rfl) ?_
      refine WL.nil ?_
      rcases condE hy9 with ⟨hc13, hy9⟩ | ⟨hc13, hy9⟩
      · refine WP.condT rfl hc13 ?_
        refine WP.skip ?_
        refine WP.block ?_
        refine WP.seq ?_
        refine WP.seq ?_
        refine WP.region ?_
        refine WL.valw (R.mv (v := (ptr bp_as 0)) h4) ?_
        refine WL.valw (R.mv (v := (str s_2)) h3) ?_
        obtain ⟨c14, hc14, hy9⟩ := bindE hy9
        refine WL.valw (R.idxS rfl rfl Tryd.underlying9 hc14) ?_
        obtain ⟨r15, hr15, hy9⟩ := bindE hy9
        refine W.call S rfl (strings_asciiSet_contains_ok S.holds p_as c14 Ap_as hr15) ?_
        rintro v16 w17 H18 hle19 S rfl
        have Ap_as := At.mono Ap_as hle19 (by intro h; have := congrArg List.length h; rw [setc_len] at this; cases this)
        refine WL.valw (R.not rfl) ?_
        refine WL.nil ?_
        rcases condE hy9 with ⟨hc20, hy9⟩ | ⟨hc20, hy9⟩
        · refine WP.condT rfl hc20 ?_
          refine WP.exit ?_
          obtain rfl := Option.some.inj hy9
          obtain rfl := hy10
          exact ⟨H18, h3, S⟩
        · refine WP.condF rfl hc20 ?_
          refine WP.skip ?_
          refine WP.region ?_
          refine WL.valw (R.mv (v := (str s_2)) h3) ?_
          obtain ⟨s21, hs21, hy9⟩ := bindE hy9
          refine WL.valw (R.subSlo rfl rfl Tryd.underlying9 hs21) ?_
          refine WL.valw (R.as (v := (str s21)) rfl) ?_
          refine WL.nil ?_
          obtain rfl := Option.some.inj hy9
          exact ⟨rfl, ⟨H18, rfl, h4, Ap_as, S⟩⟩
      · refine WP.condF rfl hc13 ?_
        refine WP.exit ?_
        obtain rfl := Option.some.inj hy9
        obtain rfl := hy10
        exact ⟨H1, h3, S⟩
  · rintro f w ⟨H5, h7, S⟩
    refine WP.seq ?_
    refine WP.region ?_
    refine WL.valw (R.mv (v := (str s_6)) h7) ?_
    refine WL.valw (R.as (v := (str s_6)) rfl) ?_
    refine WL.nil ?_
    obtain rfl := Option.some.inj h
    refine WP.ret (Out.one rfl S rfl ?_)
    exact rfl
set_option maxRecDepth 10000 in
set_option maxHeartbeats 4000000 in
theorem strings_Trim_ok {w0 : World} {H0 : Hp} (hw : Holds w0 H0) (p_s : Str) (p_cutset : Str) {r : Str} (h : strings_Trim p_s p_cutset = some r) :
    Con Tryd.prog 85 [(str p_s), (str p_cutset)] w0 H0 (fun H' v => v = (str r)) := by
  refine Con.mk (N := 43) Tryd.func85 rfl rfl (by kernel_rfl) rfl ?_
  have S := St.start hw
  refine WP.seq ?_
  refine WP.region ?_
  refine WL.valw (R.as (v := (str [])) rfl) ?_
  refine WL.nil ?_
  refine WP.seq ?_
  refine WP.seq ?_
  refine WP.region ?_
  refine WL.valw (R.mv (v := (str p_s)) rfl) ?_
  refine WL.valw (R.eqlS (a := p_s) (b := []) rfl rfl) ?_
  refine WL.valw (R.mv (v := (boo (p_s == []))) rfl) ?_
  refine WL.grp 3 [10, 11] 12 (boo ((p_s == []) || (p_cutset == []))) ?_ ?_
  · rcases boolE (p_s == []) with hb1 | hb1
    · refine WL.gno rfl rfl hb1 ?_
      refine WL.gno rfl rfl hb1 ?_
      refine WL.valw (R.pickT rfl hb1 rfl) ?_
      exact WL.nil ⟨(orT hb1), (by repeat (first | refine agree_upd rfl ?_ | refine agree_upds' rfl ?_ | exact agree_refl)), rfl⟩
    · refine WL.gyes rfl rfl hb1 ?_
      refine WL.valw (R.mv (v := (str p_cutset)) rfl) ?_
      refine WL.gyes rfl rfl hb1 ?_
      refine WL.valw (R.eqlS (a := p_cutset) (b := []) rfl rfl) ?_
      refine WL.valw (R.pickF rfl hb1 rfl) ?_
      exact WL.nil ⟨(orF hb1), (by repeat (first | refine agree_upd rfl ?_ | refine agree_upds' rfl ?_ | exact agree_refl)), rfl⟩
  · intro us
    refine WL.nil ?_
    rcases condE h with ⟨hc3, h⟩ | ⟨hc3, h⟩
    · refine WP.condT rfl hc3 ?_
      refine WP.seq ?_
      refine WP.region ?_
      refine WL.valw (R.mv (v := (str p_s)) rfl) ?_
      refine WL.valw (R.as (v := (str p_s)) rfl) ?_
      refine WL.nil ?_
      obtain rfl := Option.some.inj h
      refine WP.ret (Out.one rfl S rfl ?_)
      exact rfl
    · refine WP.condF rfl hc3 ?_
      refine WP.skip ?_
      refine WP.seq ?_
      refine WP.seq ?_
      refine WP.region ?_
      refine WL.valw (R.mv (v := (str p_cutset)) rfl) ?_
      refine WL.valw (R.lenS (a := p_cutset) rfl Tryd.underlying9) ?_
      refine WL.valw (R.eql rfl rfl) ?_
      refine WL.valw (R.mv (v := (boo ((p_cutset.length : Int) == 1))) rfl) ?_
      obtain ⟨b7, hg5, h⟩ := bindE h
      refine WL.grp 4 [18, 19, 20] 21 (boo b7) ?_ ?_
      · rcases boolE ((p_cutset.length : Int) == 1) with hb4 | hb4
        · replace hg5 := condT hg5 hb4
          refine WL.gyes rfl rfl hb4 ?_
          refine WL.valw (R.mv (v := (str p_cutset)) rfl) ?_
          refine WL.gyes rfl rfl hb4 ?_
          obtain ⟨c6, hc6, hg5⟩ := bindE hg5
          refine WL.valw (R.idxS rfl rfl Tryd.underlying9 hc6) ?_
          refine WL.gyes rfl rfl hb4 ?_
          refine WL.valw (R.lss8 (a := c6) (b := 128) rfl rfl) ?_
          refine WL.valw (R.pickT rfl hb4 rfl) ?_
          exact WL.nil ⟨(congrArg boo (Option.some.inj hg5)), (by repeat (first | refine agree_upd rfl ?_ | refine agree_upds' rfl ?_ | exact agree_refl)), rfl⟩
        · replace hg5 := condF hg5 hb4
          refine WL.gno rfl rfl hb4 ?_
          refine WL.gno rfl rfl hb4 ?_
          refine WL.gno rfl rfl hb4 ?_
          refine WL.valw (R.pickF rfl hb4 rfl) ?_
          exact WL.nil ⟨(congrArg boo (Option.some.inj hg5)), (by repeat (first | refine agree_upd rfl ?_ | refine agree_upds' rfl ?_ | exact agree_refl)), rfl⟩
      · intro us
        refine WL.nil ?_
        rcases condE h with ⟨hc8, h⟩ | ⟨hc8, h⟩
        · refine WP.condT rfl hc8 ?_
          refine WP.seq ?_
          refine WP.quiet S (by kernel_rfl) (by kernel_rfl) ?_
          refine WQ.val (fun _ _ => (R.mv (v := (str p_s)) rfl)) ?_
          refine WQ.val (fun _ _ => (R.mv (v := (str p_cutset)) rfl)) ?_
          obtain ⟨c12, hc12, h⟩ := bindE h
          refine WQ.val (fun _ _ => (R.idxS rfl rfl Tryd.underlying9 hc12)) ?_
          obtain ⟨r13, hr13, h⟩ := bindE h
          refine WQ.call (v := (str r13)) rfl (fun w H' hq S => strings_trimRightByte_ok S.holds p_s c12 hr13) ?_
          refine WQ.val (fun _ _ => (R.mv (v := (str p_cutset)) rfl)) ?_
          obtain ⟨c18, hc18, h⟩ := bindE h
          refine WQ.val (fun _ _ => (R.idxS rfl rfl Tryd.underlying9 hc18)) ?_
          obtain ⟨r19, hr19, h⟩ := bindE h
          refine WQ.call (v := (str r19)) rfl (fun w H' hq S => strings_trimLeftByte_ok S.holds r13 c18 hr19) ?_
          refine WQ.val (fun _ _ => (R.as (v := (str r19)) rfl)) ?_
          refine WQ.nil ?_
          intro w9 H10 hle11 S
          obtain rfl := Option.some.inj h
          refine WP.ret (Out.one rfl S rfl ?_)
          exact rfl
        · refine WP.condF rfl hc8 ?_
          refine WP.skip ?_
          refine WP.seq ?_
          refine WP.seq ?_
          refine WP.region ?_
          refine WL.valw (R.mv (v := (str p_cutset)) rfl) ?_
          obtain ⟨r24, hr24, h⟩ := bindE h
          refine W.call S rfl (strings_makeASCIISet_ok S.holds p_cutset hr24) ?_
          rintro v25 w26 H27 hle28 S rfl
          refine WL.valw (R.mv (v := (.tuple ⟨[(.agg (Lib.setCells p_cutset)), (boo true)]⟩)) rfl) ?_
          refine WL.valw (R.ext rfl rfl) ?_
          refine WL.valw (R.ext rfl rfl) ?_
          refine W.alloc (List.replicate 256 (boo false)) S zer93 ?_
          intro b29 w30 S
          refine W.store (i := 0) (setc p_cutset) S rfl rfl rfl lay93 (show (Lib.setCells p_cutset).size = 256 by have := setc_len p_cutset; simpa [setc] using this) (setc_one p_cutset) (Nat.le_of_eq (by rw [List.length_replicate])) (splice_all ((setc_len p_cutset).trans (by rw [List.length_replicate]))) ?_
          intro w31 S
          obtain ⟨H32, hle33, hs34, _, S⟩ := S.settle (i := 0) rfl
          replace S : St w0 H0 _ H32 [] := S
          have hA35 : At H32 ⟨b29, 0, none⟩ (setc p_cutset) := ⟨_, _, rfl, hs34, [], by simp⟩
          refine WL.valw (R.as (v := (boo true)) rfl) ?_
          refine WL.nil ?_
          refine WP.seq ?_
          refine WP.region ?_
          refine WL.valw (R.mv (v := (boo true)) rfl) ?_
          refine WL.nil ?_
          refine WP.condT (b := true) rfl rfl ?_
          refine WP.seq ?_
          refine WP.region ?_
          refine WL.valw (R.mv (v := (str p_s)) rfl) ?_
          obtain ⟨r36, hr36, h⟩ := bindE h
          refine W.call S rfl (strings_trimRightASCII_ok S.holds p_s p_cutset hA35 hr36) ?_
          rintro v37 w38 H39 hle40 S rfl
          have hA35 := At.mono hA35 hle40 (by intro h; have := congrArg List.length h; rw [setc_len] at this; cases this)
          obtain ⟨r41, hr41, h⟩ := bindE h
          refine W.call S rfl (strings_trimLeftASCII_ok S.holds r36 p_cutset hA35 hr41) ?_
          rintro v42 w43 H44 hle45 S rfl
          have hA35 := At.mono hA35 hle45 (by intro h; have := congrArg List.length h; rw [setc_len] at this; cases this)
          refine WL.valw (R.as (v := (str r41)) rfl) ?_
          refine WL.nil ?_
          obtain rfl := Option.some.inj h
          refine WP.ret (Out.one rfl S rfl ?_)
          exact rfl
set_option maxRecDepth 10000 in
set_option maxHeartbeats 4000000 in
theorem ascii_Trim_ok {w0 : World} {H0 : Hp} (hw : Holds w0 H0) (p_s : Str) {r : Str} (h : ascii_Trim p_s = some r) :
    Con Tryd.prog 74 [(str p_s)] w0 H0 (fun H' v => v = (str r)) := by
  refine Con.mk (N := 5) Tryd.func74 rfl rfl (by kernel_rfl) rfl ?_
  have S := St.start hw
  refine WP.seq ?_
  refine WP.region ?_
  refine WL.valw (R.as (v := (str [])) rfl) ?_
  refine WL.nil ?_
  refine WP.seq ?_
  refine WP.region ?_
  refine WL.valw (R.mv (v := (str p_s)) rfl) ?_
  obtain ⟨r1, hr1, h⟩ := bindE h
  refine W.call S rfl (strings_Trim_ok S.holds p_s [32, 9] hr1) ?_
  rintro v2 w3 H4 hle5 S rfl
  refine WL.valw (R.as (v := (str r1)) rfl) ?_
  refine WL.nil ?_
  obtain rfl := Option.some.inj h
  refine WP.ret (Out.one rfl S rfl ?_)
  exact rfl
set_option maxRecDepth 10000 in
set_option maxHeartbeats 4000000 in
theorem list_Split_ok {w0 : World} {H0 : Hp} (hw : Holds w0 H0) (p_value : Str) {r : (List Str)} (h : list_Split p_value = some r) :
    Con Tryd.prog 62 [(str p_value)] w0 H0 (fun H' v => Sl (α := Str) H' v r) := by
  refine Con.mk (N := 52) Tryd.func62 rfl rfl (by kernel_rfl) rfl ?_
  have S := St.start hw
  refine WP.seq ?_
  refine WP.region ?_
  refine WL.valw (R.as (v := (.slice none 0 0)) rfl) ?_
  refine WL.nil ?_
  refine WP.seq ?_
  refine WP.region ?_
  refine WL.valw (R.as (v := (.slice none 0 0)) rfl) ?_
  refine WL.nil ?_
  refine WP.seq ?_
  refine WP.region ?_
  refine WL.valw (R.as (v := (int 0)) rfl) ?_
  refine WL.valw (R.as (v := (int 0)) rfl) ?_
  refine WL.nil ?_
  refine WP.seq ?_
  refine WP.seq ?_
  refine WP.region ?_
  refine WL.valw (R.as (v := (int 0)) rfl) ?_
  refine WL.nil ?_
  have S := S.addNil 9 1
  obtain ⟨out_14, hr22, h⟩ := bindE h
  refine WP.cut (fun f w => ∃ (H13 : Hp) (v15 : Value), f 3 = v15 ∧ Sl (α := Str) H13 v15 out_14 ∧ St w0 H0 w H13 [.row v15 9 1 out_14.length]) ?_ ?_
  · refine WP.block ?_
    refine WP.loopM (list_Split_L0 p_value) (fun s f w => match s with | (out_3, state_7, from_9, i_11) => ∃ (H1 : Hp) (v4 : Value), f 0 = (str p_value) ∧ f 3 = v4 ∧ f 4 = (int state_7) ∧ f 5 = (int from_9) ∧ f 6 = (int i_11) ∧ Sl (α := Str) H1 v4 out_3 ∧ St w0 H0 w H1 [.row v4 9 1 out_3.length]) (([] : List Str), 0, 0, 0) out_14 hr22 ?_ ?_
    · exact ⟨H0, .slice none 0 0, rfl, rfl, rfl, rfl, rfl, Sl.nil, S⟩
    · intro s f w hI y18 hy19 hy20
      obtain ⟨out_3, state_7, from_9, i_11⟩ := s
      obtain ⟨H1, v4, h2, h6, h8, h10, h12, R5, S⟩ := hI
      refine WP.seq ?_
      refine WP.seq ?_
      refine WP.region ?_
      refine WL.valw (R.mv (v := (int i_11)) h12) ?_
      refine WL.valw (R.mv (v := (str p_value)) h2) ?_
      refine WL.valw (R.lenS (a := p_value) rfl Tryd.underlying9) ?_
      refine WL.valw (R.leq rfl rfl) ?_
      refine WL.valw (R.mv (v := (boo (decide (i_11 ≤ (p_value.length : Int))))) rfl) ?_
      refine WL.grp 4 [13, 14, 15] 16 (boo ((decide (i_11 ≤ (p_value.length : Int))) && (decide ((out_3.length : Int) < 64)))) ?_ ?_
      · rcases boolE (decide (i_11 ≤ (p_value.length : Int))) with hb23 | hb23
        · refine WL.gyes rfl rfl hb23 ?_
          refine WL.valw (R.mv (v := v4) h6) ?_
          refine WL.gyes rfl rfl hb23 ?_
          refine WL.valw (R.lenL (α := Str) (xs := out_3) (H := H1) R5 rfl Tryd.underlying23) ?_
          refine WL.gyes rfl rfl hb23 ?_
          refine WL.valw (R.lss rfl rfl) ?_
          refine WL.valw (R.pickT rfl hb23 rfl) ?_
          exact WL.nil ⟨(andT hb23), (by repeat (first | refine agree_upd rfl ?_ | refine agree_upds' rfl ?_ | exact agree_refl)), rfl⟩
        · refine WL.gno rfl rfl hb23 ?_
          refine WL.gno rfl rfl hb23 ?_
          refine WL.gno rfl rfl hb23 ?_
          refine WL.valw (R.pickF rfl hb23 rfl) ?_
          exact WL.nil ⟨(andF hb23), (by repeat (first | refine agree_upd rfl ?_ | refine agree_upds' rfl ?_ | exact agree_refl)), rfl⟩
      · intro us
        refine WL.nil ?_
        rcases condE hy19 with ⟨hc25, hy19⟩ | ⟨hc25, hy19⟩
        · refine WP.condT rfl hc25 ?_
          refine WP.skip ?_
          refine WP.seq ?_
          refine WP.block ?_
          refine WP.seq ?_
          refine WP.seq ?_
          refine WP.region ?_
          refine WL.valw (R.mv (v := (int i_11)) h12) ?_
          refine WL.valw (R.mv (v := (str p_value)) h2) ?_
          refine WL.valw (R.lenS (a := p_value) rfl Tryd.underlying9) ?_
          refine WL.valw (R.lss rfl rfl) ?_
          refine WL.valw (R.mv (v := (boo (decide (i_11 < (p_value.length : Int))))) rfl) ?_
          obtain ⟨b32, hg27, hy19⟩ := bindE hy19
          refine WL.grp 9 [24, 25, 26, 27, 28, 29, 30, 31] 32 (boo b32) ?_ ?_
          · rcases boolE (decide (i_11 < (p_value.length : Int))) with hb26 | hb26
            · replace hg27 := condT hg27 hb26
              refine WL.gyes rfl rfl hb26 ?_
              refine WL.valw (R.mv (v := (int state_7)) h8) ?_
              refine WL.gyes rfl rfl hb26 ?_
              refine WL.valw (R.neq rfl rfl) ?_
              refine WL.gyes rfl rfl hb26 ?_
              refine WL.valw (R.mv (v := (boo (state_7 != 0))) rfl) ?_
              obtain ⟨b31, hg29, hg27⟩ := bindE hg27
              refine WL.grp 5 [27, 28, 29, 30] 31 (boo b31) ?_ ?_
              · rcases boolE (state_7 != 0) with hb28 | hb28
                · replace hg29 := condT hg29 hb28
                  refine WL.gno rfl rfl hb28 ?_
                  refine WL.gno rfl rfl hb28 ?_
                  refine WL.gno rfl rfl hb28 ?_
                  refine WL.gno rfl rfl hb28 ?_
                  refine WL.gyes rfl rfl hb26 ?_
                  refine WL.valw (R.pickT rfl hb28 rfl) ?_
                  exact WL.nil ⟨(congrArg boo (Option.some.inj hg29)), (by repeat (first | refine agree_upd rfl ?_ | refine agree_upds' rfl ?_ | exact agree_refl)), rfl⟩
                · replace hg29 := condF hg29 hb28
                  refine WL.gyes rfl rfl hb28 ?_
                  refine WL.valw (R.mv (v := (str p_value)) h2) ?_
                  refine WL.gyes rfl rfl hb28 ?_
                  refine WL.valw (R.mv (v := (int i_11)) h12) ?_
                  refine WL.gyes rfl rfl hb28 ?_
                  obtain ⟨c30, hc30, hg29⟩ := bindE hg29
                  refine WL.valw (R.idxS rfl rfl Tryd.underlying9 hc30) ?_
                  refine WL.gyes rfl rfl hb28 ?_
                  refine WL.valw (R.neq8 (a := c30) (b := 44) rfl rfl) ?_
                  refine WL.gyes rfl rfl hb26 ?_
                  refine WL.valw (R.pickF rfl hb28 rfl) ?_
                  exact WL.nil ⟨(congrArg boo (Option.some.inj hg29)), (by repeat (first | refine agree_upd rfl ?_ | refine agree_upds' rfl ?_ | exact agree_refl)), rfl⟩
              · intro us
                refine WL.valw (R.pickT rfl hb26 rfl) ?_
                exact WL.nil ⟨(congrArg boo (Option.some.inj hg27)), (by repeat (first | refine agree_upd rfl ?_ | refine agree_upds' rfl ?_ | exact agree_refl)), rfl⟩
            · replace hg27 := condF hg27 hb26
              refine WL.gno rfl rfl hb26 ?_
              refine WL.gno rfl rfl hb26 ?_
              refine WL.gno rfl rfl hb26 ?_
              refine WL.gund rfl rfl ?_
              refine WL.gund rfl rfl ?_
              refine WL.gund rfl rfl ?_
              refine WL.gund rfl rfl ?_
              refine WL.gno rfl rfl hb26 ?_
              refine WL.valw (R.pickF rfl hb26 rfl) ?_
              exact WL.nil ⟨(congrArg boo (Option.some.inj hg27)), (by repeat (first | refine agree_upd rfl ?_ | refine agree_upds' rfl ?_ | exact agree_refl)), rfl⟩
          · intro us
            refine WL.nil ?_
            rcases condE hy19 with ⟨hc33, hy19⟩ | ⟨hc33, hy19⟩
            · refine WP.condT rfl hc33 ?_
              refine WP.seq ?_
              refine WP.region ?_
              refine WL.valw (R.mv (v := (int state_7)) h8) ?_
              refine WL.valw (R.mv (v := (str p_value)) h2) ?_
              refine WL.valw (R.mv (v := (int i_11)) h12) ?_
              obtain ⟨c34, hc34, hy19⟩ := bindE hy19
              refine WL.valw (R.idxS rfl rfl Tryd.underlying9 hc34) ?_
              obtain ⟨r35, hr35, hy19⟩ := bindE hy19
              refine W.call S rfl (list_step_ok S.holds state_7 c34 hr35) ?_
              rintro v36 w37 H38 hle39 S rfl
              have R5 := Sl.mono R5 hle39
              refine WL.valw (R.as (v := (int r35)) rfl) ?_
              refine WL.nil ?_
              refine WP.exit ?_
              refine WP.region ?_
              refine WL.valw (R.mv (v := (int i_11)) h12) ?_
              refine WL.valw (R.add rfl rfl) ?_
              refine WL.valw (R.as (v := (int (wr (i_11 + 1)))) rfl) ?_
              refine WL.nil ?_
              obtain rfl := Option.some.inj hy19
              exact ⟨rfl, ⟨H38, v4, h2, h6, rfl, h10, rfl, R5, S⟩⟩
            · refine WP.condF rfl hc33 ?_
              refine WP.skip ?_
              refine WP.seq ?_
              refine WP.seq ?_
              refine WP.region ?_
              refine WL.valw (R.mv (v := (str p_value)) h2) ?_
              refine WL.valw (R.mv (v := (int from_9)) h10) ?_
              refine WL.valw (R.mv (v := (int i_11)) h12) ?_
              obtain ⟨s40, hs40, hy19⟩ := bindE hy19
              refine WL.valw (R.subS rfl rfl rfl Tryd.underlying9 hs40) ?_
              obtain ⟨r41, hr41, hy19⟩ := bindE hy19
              refine W.call S rfl (ascii_Trim_ok S.holds s40 hr41) ?_
              rintro v42 w43 H44 hle45 S rfl
              have R5 := Sl.mono R5 hle45
              refine WL.valw (R.as (v := (str r41)) rfl) ?_
              refine WL.nil ?_
              refine WP.seq ?_
              refine WP.region ?_
              refine WL.valw (R.mv (v := (str r41)) rfl) ?_
              refine WL.valw (R.neqS (a := r41) (b := []) rfl rfl) ?_
              refine WL.nil ?_
              rcases condE hy19 with ⟨hc46, hy19⟩ | ⟨hc46, hy19⟩
              · refine WP.condT rfl hc46 ?_
                refine WP.region ?_
                refine WL.valw (R.mv (v := v4) h6) ?_
                refine WL.valw (R.mv (v := (str r41)) rfl) ?_
                refine W.bslice (α := Str) [(str r41)] ([r41] : List Str) S el23 rfl rfl rfl (by decide) (encS ⟨rfl, rfl⟩ enc0) ?_
                intro u47 w48 H49 hle50 R51 S
                have R5 := Sl.mono R5 hle50
                obtain ⟨l52, hl52, hy19⟩ := bindE hy19
                refine W.app (α := Str) (i := 1) S el23 rfl rfl rfl R5 R51 hl52 ?_
                intro v53 w54 H55 hle56 R57 S
                have R5 := Sl.mono R5 hle56
                have R51 := Sl.mono R51 hle56
                refine WL.valw (R.as (v := v53) rfl) ?_
                refine WL.nil ?_
                refine WP.region ?_
                refine WL.valw (R.mv (v := (int i_11)) h12) ?_
                refine WL.valw (R.add rfl rfl) ?_
                refine WL.valw (R.as (v := (int (wr (i_11 + 1)))) rfl) ?_
                refine WL.nil ?_
                refine WP.region ?_
                refine WL.valw (R.mv (v := (int i_11)) h12) ?_
                refine WL.valw (R.add rfl rfl) ?_
                refine WL.valw (R.as (v := (int (wr (i_11 + 1)))) rfl) ?_
                refine WL.nil ?_
                obtain rfl := Option.some.inj hy19
                exact ⟨rfl, ⟨H55, v53, h2, rfl, h8, rfl, rfl, R57, (S.drop _ (.cons _ (.cons_cons _ .slnil)))⟩⟩
              · refine WP.condF rfl hc46 ?_
                refine WP.skip ?_
                refine WP.region ?_
                refine WL.valw (R.mv (v := (int i_11)) h12) ?_
                refine WL.valw (R.add rfl rfl) ?_
                refine WL.valw (R.as (v := (int (wr (i_11 + 1)))) rfl) ?_
                refine WL.nil ?_
                refine WP.region ?_
                refine WL.valw (R.mv (v := (int i_11)) h12) ?_
                refine WL.valw (R.add rfl rfl) ?_
                refine WL.valw (R.as (v := (int (wr (i_11 + 1)))) rfl) ?_
                refine WL.nil ?_
                obtain rfl := Option.some.inj hy19
                exact ⟨rfl, ⟨H44, v4, h2, h6, h8, rfl, rfl, R5, S⟩⟩
        · refine WP.condF rfl hc25 ?_
          refine WP.exit ?_
          obtain rfl := Option.some.inj hy19
          obtain rfl := hy20
          exact ⟨H1, v4, h6, R5, S⟩
  · rintro f w ⟨H13, v15, h17, R16, S⟩
    refine WP.seq ?_
    refine WP.region ?_
    refine WL.valw (R.mv (v := v15) h17) ?_
    refine WL.valw (R.as (v := v15) rfl) ?_
    refine WL.nil ?_
    obtain rfl := Option.some.inj h
    refine WP.ret (Out.one rfl S rfl ?_)
    exact R16
set_option maxRecDepth 10000 in
set_option maxHeartbeats 4000000 in
theorem list_All_ok {w0 : World} {H0 : Hp} (hw : Holds w0 H0) (p_l : (List GField)) (p_name : Str) {vp_l : Value} (Rp_l : Sl (α := GField) H0 vp_l p_l) {r : (List Str)} (h : list_All p_l p_name = some r) :
    Con Tryd.prog 42 [vp_l, (str p_name)] w0 H0 (fun H' v => Sl (α := Str) H' v r) := by
  refine Con.mk (N := 26) Tryd.func42 rfl rfl (by kernel_rfl) rfl ?_
  have S := St.start hw
  refine WP.seq ?_
  refine WP.region ?_
  refine WL.valw (R.as (v := (.slice none 0 0)) rfl) ?_
  refine WL.nil ?_
  refine WP.seq ?_
  refine WP.region ?_
  refine WL.valw (R.as (v := (.slice none 0 0)) rfl) ?_
  refine WL.nil ?_
  refine WP.seq ?_
  refine WP.seq ?_
  refine WP.region ?_
  refine WL.valw (R.mv (v := vp_l) rfl) ?_
  refine WL.valw (R.mv (v := (str p_name)) rfl) ?_
  obtain ⟨r1, hr1, h⟩ := bindE h
  refine W.call S rfl (fieldline_Get_ok S.holds p_l p_name Rp_l hr1) ?_
  rintro v2 w3 H4 hle5 S R6
  have Rp_l := Sl.mono Rp_l hle5
  refine WL.valw (R.lenL (α := Str) (xs := r1) (H := H4) R6 rfl Tryd.underlying23) ?_
  refine WL.valw (R.mv (v := (int 0)) rfl) ?_
  refine WL.nil ?_
  have S := S.addNil 9 1
  obtain ⟨out_17, hr25, h⟩ := bindE h
  refine WP.cut (fun f w => ∃ (H16 : Hp) (v18 : Value), f 5 = v18 ∧ Sl (α := Str) H16 v18 out_17 ∧ St w0 H0 w H16 [.row v18 9 1 out_17.length]) ?_ ?_
  · refine WP.block ?_
    refine WP.loopM (list_All_L0 r1) (fun s f w => match s with | (out_8, y_14) => ∃ (H7 : Hp) (v9 : Value), f 5 = v9 ∧ f 10 = v2 ∧ f 11 = (int (r1.length : Int)) ∧ f 12 = (int y_14) ∧ Sl (α := Str) H7 v9 out_8 ∧ Sl (α := Str) H7 v2 r1 ∧ St w0 H0 w H7 [.row v9 9 1 out_8.length]) (([] : List Str), 0) out_17 hr25 ?_ ?_
    · exact ⟨H4, .slice none 0 0, rfl, rfl, rfl, rfl, Sl.nil, R6, S⟩
    · intro s f w hI y21 hy22 hy23
      obtain ⟨out_8, y_14⟩ := s
      obtain ⟨H7, v9, h11, h12, h13, h15, R10, R6, S⟩ := hI
      refine WP.seq ?_
      refine WP.region ?_
      refine WL.valw (R.lss h15 h13) ?_
      refine WL.nil ?_
      refine WP.seq ?_
      rcases condE hy22 with ⟨hc26, hy22⟩ | ⟨hc26, hy22⟩
      · refine WP.condT rfl hc26 ?_
        refine WP.skip ?_
        refine WP.seq ?_
        refine WP.block ?_
        refine WP.seq ?_
        refine WP.region ?_
        obtain ⟨x27, hx27, hy22⟩ := bindE hy22
        refine W.idx (α := Str) R6 h12 h15 el23 hx27 ?_
        rintro a28 _ hA29 rfl
        refine WL.valw (R.loadH (v := (str x27)) S rfl hA29 lay9 rfl) ?_
        refine WL.valw (R.as (v := (str x27)) rfl) ?_
        refine WL.nil ?_
        refine WP.region ?_
        refine WL.valw (R.mv (v := v9) h11) ?_
        refine WL.valw (R.mv (v := (str x27)) rfl) ?_
        obtain ⟨r30, hr30, hy22⟩ := bindE hy22
        refine W.call S rfl (list_Split_ok S.holds x27 hr30) ?_
        rintro v31 w32 H33 hle34 S R35
        have R10 := Sl.mono R10 hle34
        have R6 := Sl.mono R6 hle34
        have hA29 := At.mono hA29 hle34 (by simp)
        obtain ⟨l36, hl36, hy22⟩ := bindE hy22
        refine W.app (α := Str) (i := 0) S el23 rfl rfl rfl R10 R35 hl36 ?_
        intro v37 w38 H39 hle40 R41 S
        have R10 := Sl.mono R10 hle40
        have R6 := Sl.mono R6 hle40
        have hA29 := At.mono hA29 hle40 (by simp)
        have R35 := Sl.mono R35 hle40
        refine WL.valw (R.as (v := v37) rfl) ?_
        refine WL.nil ?_
        refine WP.region ?_
        refine WL.valw (R.add h15 rfl) ?_
        refine WL.valw (R.mv (v := (int (wr (y_14 + 1)))) rfl) ?_
        refine WL.nil ?_
        obtain rfl := Option.some.inj hy22
        exact ⟨rfl, ⟨H39, v37, rfl, h12, h13, rfl, R41, R6, S⟩⟩
      · refine WP.condF rfl hc26 ?_
        refine WP.exit ?_
        obtain rfl := Option.some.inj hy22
        obtain rfl := hy23
        exact ⟨H7, v9, h11, R10, S⟩
  · rintro f w ⟨H16, v18, h20, R19, S⟩
    refine WP.seq ?_
    refine WP.region ?_
    refine WL.valw (R.mv (v := v18) h20) ?_
    refine WL.valw (R.mv (v := v18) h20) ?_
    refine WL.valw (R.lenL (α := Str) (xs := out_17) (H := H16) R19 rfl Tryd.underlying23) ?_
    refine WL.valw (R.min rfl rfl) ?_
    obtain ⟨l42, hl42, h⟩ := bindE h
    refine W.subHi (α := Str) R19 rfl rfl el23 hl42 ?_
    intro v43 R44
    refine WL.valw (R.as (v := v43) rfl) ?_
    refine WL.nil ?_
    obtain rfl := Option.some.inj h
    refine WP.ret (Out.one rfl S rfl ?_)
    exact R44
set_option maxRecDepth 10000 in
set_option maxHeartbeats 4000000 in
theorem ascii_part_ok {w0 : World} {H0 : Hp} (hw : Holds w0 H0) (p_c : UInt8) {r : Bool} (h : ascii_part p_c = some r) :
    Con Tryd.prog 75 [(byt p_c)] w0 H0 (fun H' v => v = (boo r)) := by
  refine Con.mk (N := 42) Tryd.func75 rfl rfl (by kernel_rfl) rfl ?_
  have S := St.start hw
  refine WP.seq ?_
  refine WP.region ?_
  refine WL.valw (R.as (v := (boo false)) rfl) ?_
  refine WL.nil ?_
  refine WP.seq ?_
  refine WP.seq ?_
  refine WP.region ?_
  refine WL.valw (R.mv (v := (byt p_c)) rfl) ?_
  refine WL.nil ?_
  obtain ⟨j4, hj3, h⟩ := bindE h
  refine WP.cut (fun f w => match j4 with | .inl _ => ∃ (H1 : Hp), f 0 = (byt p_c) ∧ St w0 H0 w H1 [] | .inr _ => False) ?_ ?_
  · refine WP.block ?_
    refine WP.seq ?_
    refine WP.seq ?_
    refine WP.region ?_
    refine WL.valw (R.eql8 (a := p_c) (b := 33) rfl rfl) ?_
    refine WL.valw (R.as (v := (boo (p_c == 33))) rfl) ?_
    refine WL.nil ?_
    obtain ⟨y_7, hj9, hj3⟩ := bindE hj3
    refine WP.cut (fun f w => ∃ (H5 : Hp), f 0 = (byt p_c) ∧ f 4 = (boo y_7) ∧ St w0 H0 w H5 []) ?_ ?_
    · rcases condE hj9 with ⟨hc11, hj9⟩ | ⟨hc11, hj9⟩
      · refine WP.condT rfl hc11 ?_
        refine WP.skip ?_
        obtain rfl := Option.some.inj hj9
        exact ⟨H0, rfl, rfl, S⟩
      · refine WP.condF rfl hc11 ?_
        refine WP.seq ?_
        refine WP.region ?_
        refine WL.valw (R.eql8 (a := p_c) (b := 35) rfl rfl) ?_
        refine WL.valw (R.as (v := (boo (p_c == 35))) rfl) ?_
        refine WL.nil ?_
        rcases condE hj9 with ⟨hc12, hj9⟩ | ⟨hc12, hj9⟩
        · refine WP.condT rfl hc12 ?_
          refine WP.skip ?_
          obtain rfl := Option.some.inj hj9
          exact ⟨H0, rfl, rfl, S⟩
        · refine WP.condF rfl hc12 ?_
          refine WP.seq ?_
          refine WP.region ?_
          refine WL.valw (R.eql8 (a := p_c) (b := 36) rfl rfl) ?_
          refine WL.valw (R.as (v := (boo (p_c == 36))) rfl) ?_
          refine WL.nil ?_
          rcases condE hj9 with ⟨hc13, hj9⟩ | ⟨hc13, hj9⟩
          · refine WP.condT rfl hc13 ?_
            refine WP.skip ?_
            obtain rfl := Option.some.inj hj9
            exact ⟨H0, rfl, rfl, S⟩
          · refine WP.condF rfl hc13 ?_
            refine WP.seq ?_
            refine WP.region ?_
            refine WL.valw (R.eql8 (a := p_c) (b := 37) rfl rfl) ?_
            refine WL.valw (R.as (v := (boo (p_c == 37))) rfl) ?_
            refine WL.nil ?_
            rcases condE hj9 with ⟨hc14, hj9⟩ | ⟨hc14, hj9⟩
            · refine WP.condT rfl hc14 ?_
              refine WP.skip ?_
              obtain rfl := Option.some.inj hj9
              exact ⟨H0, rfl, rfl, S⟩
            · refine WP.condF rfl hc14 ?_
              refine WP.seq ?_
              refine WP.region ?_
              refine WL.valw (R.eql8 (a := p_c) (b := 38) rfl rfl) ?_
              refine WL.valw (R.as (v := (boo (p_c == 38))) rfl) ?_
              refine WL.nil ?_
              rcases condE hj9 with ⟨hc15, hj9⟩ | ⟨hc15, hj9⟩
              · refine WP.condT rfl hc15 ?_
                refine WP.skip ?_
                obtain rfl := Option.some.inj hj9
                exact ⟨H0, rfl, rfl, S⟩
              · refine WP.condF rfl hc15 ?_
                refine WP.seq ?_
                refine WP.region ?_
                refine WL.valw (R.eql8 (a := p_c) (b := 39) rfl rfl) ?_
                refine WL.valw (R.as (v := (boo (p_c == 39))) rfl) ?_
                refine WL.nil ?_
                rcases condE hj9 with ⟨hc16, hj9⟩ | ⟨hc16, hj9⟩
                · refine WP.condT rfl hc16 ?_
                  refine WP.skip ?_
                  obtain rfl := Option.some.inj hj9
                  exact ⟨H0, rfl, rfl, S⟩
                · refine WP.condF rfl hc16 ?_
                  refine WP.seq ?_
                  refine WP.region ?_
                  refine WL.valw (R.eql8 (a := p_c) (b := 42) rfl rfl) ?_
                  refine WL.valw (R.as (v := (boo (p_c == 42))) rfl) ?_
                  refine WL.nil ?_
                  rcases condE hj9 with ⟨hc17, hj9⟩ | ⟨hc17, hj9⟩
                  · refine WP.condT rfl hc17 ?_
                    refine WP.skip ?_
                    obtain rfl := Option.some.inj hj9
                    exact ⟨H0, rfl, rfl, S⟩
                  · refine WP.condF rfl hc17 ?_
                    refine WP.seq ?_
                    refine WP.region ?_
                    refine WL.valw (R.eql8 (a := p_c) (b := 43) rfl rfl) ?_
                    refine WL.valw (R.as (v := (boo (p_c == 43))) rfl) ?_
                    refine WL.nil ?_
                    rcases condE hj9 with ⟨hc18, hj9⟩ | ⟨hc18, hj9⟩
                    · refine WP.condT rfl hc18 ?_
                      refine WP.skip ?_
                      obtain rfl := Option.some.inj hj9
                      exact ⟨H0, rfl, rfl, S⟩
                    · refine WP.condF rfl hc18 ?_
                      refine WP.seq ?_
                      refine WP.region ?_
                      refine WL.valw (R.eql8 (a := p_c) (b := 45) rfl rfl) ?_
                      refine WL.valw (R.as (v := (boo (p_c == 45))) rfl) ?_
                      refine WL.nil ?_
                      rcases condE hj9 with ⟨hc19, hj9⟩ | ⟨hc19, hj9⟩
                      · refine WP.condT rfl hc19 ?_
                        refine WP.skip ?_
                        obtain rfl := Option.some.inj hj9
                        exact ⟨H0, rfl, rfl, S⟩
                      · refine WP.condF rfl hc19 ?_
                        refine WP.seq ?_
                        refine WP.region ?_
                        refine WL.valw (R.eql8 (a := p_c) (b := 46) rfl rfl) ?_
                        refine WL.valw (R.as (v := (boo (p_c == 46))) rfl) ?_
                        refine WL.nil ?_
                        rcases condE hj9 with ⟨hc20, hj9⟩ | ⟨hc20, hj9⟩
                        · refine WP.condT rfl hc20 ?_
                          refine WP.skip ?_
                          obtain rfl := Option.some.inj hj9
                          exact ⟨H0, rfl, rfl, S⟩
                        · refine WP.condF rfl hc20 ?_
                          refine WP.seq ?_
                          refine WP.region ?_
                          refine WL.valw (R.eql8 (a := p_c) (b := 94) rfl rfl) ?_
                          refine WL.valw (R.as (v := (boo (p_c == 94))) rfl) ?_
                          refine WL.nil ?_
                          rcases condE hj9 with ⟨hc21, hj9⟩ | ⟨hc21, hj9⟩
                          · refine WP.condT rfl hc21 ?_
                            refine WP.skip ?_
                            obtain rfl := Option.some.inj hj9
                            exact ⟨H0, rfl, rfl, S⟩
                          · refine WP.condF rfl hc21 ?_
                            refine WP.seq ?_
                            refine WP.region ?_
                            refine WL.valw (R.eql8 (a := p_c) (b := 95) rfl rfl) ?_
                            refine WL.valw (R.as (v := (boo (p_c == 95))) rfl) ?_
                            refine WL.nil ?_
                            rcases condE hj9 with ⟨hc22, hj9⟩ | ⟨hc22, hj9⟩
                            · refine WP.condT rfl hc22 ?_
                              refine WP.skip ?_
                              obtain rfl := Option.some.inj hj9
                              exact ⟨H0, rfl, rfl, S⟩
                            · refine WP.condF rfl hc22 ?_
                              refine WP.seq ?_
                              refine WP.region ?_
                              refine WL.valw (R.eql8 (a := p_c) (b := 96) rfl rfl) ?_
                              refine WL.valw (R.as (v := (boo (p_c == 96))) rfl) ?_
                              refine WL.nil ?_
                              rcases condE hj9 with ⟨hc23, hj9⟩ | ⟨hc23, hj9⟩
                              · refine WP.condT rfl hc23 ?_
                                refine WP.skip ?_
                                obtain rfl := Option.some.inj hj9
                                exact ⟨H0, rfl, rfl, S⟩
                              · refine WP.condF rfl hc23 ?_
                                refine WP.seq ?_
                                refine WP.region ?_
                                refine WL.valw (R.eql8 (a := p_c) (b := 124) rfl rfl) ?_
                                refine WL.valw (R.as (v := (boo (p_c == 124))) rfl) ?_
                                refine WL.nil ?_
                                rcases condE hj9 with ⟨hc24, hj9⟩ | ⟨hc24, hj9⟩
                                · refine WP.condT rfl hc24 ?_
                                  refine WP.skip ?_
                                  obtain rfl := Option.some.inj hj9
                                  exact ⟨H0, rfl, rfl, S⟩
                                · refine WP.condF rfl hc24 ?_
                                  refine WP.region ?_
                                  refine WL.valw (R.eql8 (a := p_c) (b := 126) rfl rfl) ?_
                                  refine WL.valw (R.as (v := (boo (p_c == 126))) rfl) ?_
                                  refine WL.nil ?_
                                  obtain rfl := Option.some.inj hj9
                                  exact ⟨H0, rfl, rfl, S⟩
    · rintro f w ⟨H5, h6, h8, S⟩
      rcases condE hj3 with ⟨hc25, hj3⟩ | ⟨hc25, hj3⟩
      · refine WP.condT h8 hc25 ?_
        refine WP.seq ?_
        refine WP.region ?_
        refine WL.valw (R.as (v := (boo true)) rfl) ?_
        refine WL.nil ?_
        obtain rfl := Option.some.inj hj3
        obtain rfl := Option.some.inj h
        refine WP.ret (Out.one rfl S rfl ?_)
        exact rfl
      · refine WP.condF h8 hc25 ?_
        refine WP.skip ?_
        obtain rfl := Option.some.inj hj3
        exact ⟨H5, h6, S⟩
  · intro f w hM
    rcases j4 with _ | e
    · obtain ⟨H1, h2, S⟩ := hM
      refine WP.seq ?_
      refine WP.region ?_
      refine WL.valw (R.mv (v := (byt p_c)) h2) ?_
      refine WL.valw (R.geq8 (a := p_c) (b := 48) rfl rfl) ?_
      refine WL.valw (R.mv (v := (boo (decide (48 ≤ p_c)))) rfl) ?_
      refine WL.grp 3 [23, 24] 25 (boo ((decide (48 ≤ p_c)) && (decide (p_c ≤ 57)))) ?_ ?_
      · rcases boolE (decide (48 ≤ p_c)) with hb26 | hb26
        · refine WL.gyes rfl rfl hb26 ?_
          refine WL.valw (R.mv (v := (byt p_c)) h2) ?_
          refine WL.gyes rfl rfl hb26 ?_
          refine WL.valw (R.leq8 (a := p_c) (b := 57) rfl rfl) ?_
          refine WL.valw (R.pickT rfl hb26 rfl) ?_
          exact WL.nil ⟨(andT hb26), (by repeat (first | refine agree_upd rfl ?_ | refine agree_upds' rfl ?_ | exact agree_refl)), rfl⟩
        · refine WL.gno rfl rfl hb26 ?_
          refine WL.gno rfl rfl hb26 ?_
          refine WL.valw (R.pickF rfl hb26 rfl) ?_
          exact WL.nil ⟨(andF hb26), (by repeat (first | refine agree_upd rfl ?_ | refine agree_upds' rfl ?_ | exact agree_refl)), rfl⟩
      · intro us
        refine WL.valw (R.mv (v := (boo ((decide (48 ≤ p_c)) && (decide (p_c ≤ 57))))) rfl) ?_
        refine WL.grp 7 [27, 28, 29, 30, 31, 32] 33 (boo (((decide (48 ≤ p_c)) && (decide (p_c ≤ 57))) || ((decide (65 ≤ p_c)) && (decide (p_c ≤ 90))))) ?_ ?_
        · rcases boolE ((decide (48 ≤ p_c)) && (decide (p_c ≤ 57))) with hb28 | hb28
          · refine WL.gno rfl rfl hb28 ?_
            refine WL.gno rfl rfl hb28 ?_
            refine WL.gno rfl rfl hb28 ?_
            refine WL.gund rfl rfl ?_
            refine WL.gund rfl rfl ?_
            refine WL.gno rfl rfl hb28 ?_
            refine WL.valw (R.pickT rfl hb28 rfl) ?_
            exact WL.nil ⟨(orT hb28), (by repeat (first | refine agree_upd rfl ?_ | refine agree_upds' rfl ?_ | exact agree_refl)), rfl⟩
          · refine WL.gyes rfl rfl hb28 ?_
            refine WL.valw (R.mv (v := (byt p_c)) h2) ?_
            refine WL.gyes rfl rfl hb28 ?_
            refine WL.valw (R.geq8 (a := p_c) (b := 65) rfl rfl) ?_
            refine WL.gyes rfl rfl hb28 ?_
            refine WL.valw (R.mv (v := (boo (decide (65 ≤ p_c)))) rfl) ?_
            refine WL.grp 3 [30, 31] 32 (boo ((decide (65 ≤ p_c)) && (decide (p_c ≤ 90)))) ?_ ?_
            · rcases boolE (decide (65 ≤ p_c)) with hb30 | hb30
              · refine WL.gyes rfl rfl hb30 ?_
                refine WL.valw (R.mv (v := (byt p_c)) h2) ?_
                refine WL.gyes rfl rfl hb30 ?_
                refine WL.valw (R.leq8 (a := p_c) (b := 90) rfl rfl) ?_
                refine WL.gyes rfl rfl hb28 ?_
                refine WL.valw (R.pickT rfl hb30 rfl) ?_
                exact WL.nil ⟨(andT hb30), (by repeat (first | refine agree_upd rfl ?_ | refine agree_upds' rfl ?_ | exact agree_refl)), rfl⟩
              · refine WL.gno rfl rfl hb30 ?_
                refine WL.gno rfl rfl hb30 ?_
                refine WL.gyes rfl rfl hb28 ?_
                refine WL.valw (R.pickF rfl hb30 rfl) ?_
                exact WL.nil ⟨(andF hb30), (by repeat (first | refine agree_upd rfl ?_ | refine agree_upds' rfl ?_ | exact agree_refl)), rfl⟩
            · intro us
              refine WL.valw (R.pickF rfl hb28 rfl) ?_
              exact WL.nil ⟨(orF hb28), (by repeat (first | refine agree_upd rfl ?_ | refine agree_upds' rfl ?_ | exact agree_refl)), rfl⟩
        · intro us
          refine WL.valw (R.mv (v := (boo (((decide (48 ≤ p_c)) && (decide (p_c ≤ 57))) || ((decide (65 ≤ p_c)) && (decide (p_c ≤ 90)))))) rfl) ?_
          refine WL.grp 7 [35, 36, 37, 38, 39, 40] 41 (boo ((((decide (48 ≤ p_c)) && (decide (p_c ≤ 57))) || ((decide (65 ≤ p_c)) && (decide (p_c ≤ 90)))) || ((decide (97 ≤ p_c)) && (decide (p_c ≤ 122))))) ?_ ?_
          · rcases boolE (((decide (48 ≤ p_c)) && (decide (p_c ≤ 57))) || ((decide (65 ≤ p_c)) && (decide (p_c ≤ 90)))) with hb32 | hb32
            · refine WL.gno rfl rfl hb32 ?_
              refine WL.gno rfl rfl hb32 ?_
              refine WL.gno rfl rfl hb32 ?_
              refine WL.gund rfl rfl ?_
              refine WL.gund rfl rfl ?_
              refine WL.gno rfl rfl hb32 ?_
              refine WL.valw (R.pickT rfl hb32 rfl) ?_
              exact WL.nil ⟨(orT hb32), (by repeat (first | refine agree_upd rfl ?_ | refine agree_upds' rfl ?_ | exact agree_refl)), rfl⟩
            · refine WL.gyes rfl rfl hb32 ?_
              refine WL.valw (R.mv (v := (byt p_c)) h2) ?_
              refine WL.gyes rfl rfl hb32 ?_
              refine WL.valw (R.geq8 (a := p_c) (b := 97) rfl rfl) ?_
              refine WL.gyes rfl rfl hb32 ?_
              refine WL.valw (R.mv (v := (boo (decide (97 ≤ p_c)))) rfl) ?_
              refine WL.grp 3 [38, 39] 40 (boo ((decide (97 ≤ p_c)) && (decide (p_c ≤ 122)))) ?_ ?_
              · rcases boolE (decide (97 ≤ p_c)) with hb34 | hb34
                · refine WL.gyes rfl rfl hb34 ?_
                  refine WL.valw (R.mv (v := (byt p_c)) h2) ?_
                  refine WL.gyes rfl rfl hb34 ?_
                  refine WL.valw (R.leq8 (a := p_c) (b := 122) rfl rfl) ?_
                  refine WL.gyes rfl rfl hb32 ?_
                  refine WL.valw (R.pickT rfl hb34 rfl) ?_
                  exact WL.nil ⟨(andT hb34), (by repeat (first | refine agree_upd rfl ?_ | refine agree_upds' rfl ?_ | exact agree_refl)), rfl⟩
                · refine WL.gno rfl rfl hb34 ?_
                  refine WL.gno rfl rfl hb34 ?_
                  refine WL.gyes rfl rfl hb32 ?_
                  refine WL.valw (R.pickF rfl hb34 rfl) ?_
                  exact WL.nil ⟨(andF hb34), (by repeat (first | refine agree_upd rfl ?_ | refine agree_upds' rfl ?_ | exact agree_refl)), rfl⟩
              · intro us
                refine WL.valw (R.pickF rfl hb32 rfl) ?_
                exact WL.nil ⟨(orF hb32), (by repeat (first | refine agree_upd rfl ?_ | refine agree_upds' rfl ?_ | exact agree_refl)), rfl⟩
          · intro us
            refine WL.valw (R.as (v := (boo ((((decide (48 ≤ p_c)) && (decide (p_c ≤ 57))) || ((decide (65 ≤ p_c)) && (decide (p_c ≤ 90)))) || ((decide (97 ≤ p_c)) && (decide (p_c ≤ 122)))))) rfl) ?_
            refine WL.nil ?_
            obtain rfl := Option.some.inj h
            refine WP.ret (Out.one rfl S rfl ?_)
            exact rfl
    · exact hM.elim
set_option maxRecDepth 10000 in
set_option maxHeartbeats 4000000 in
theorem ascii_Token_ok {w0 : World} {H0 : Hp} (hw : Holds w0 H0) (p_s : Str) {r : Bool} (h : ascii_Token p_s = some r) :
    Con Tryd.prog 63 [(str p_s)] w0 H0 (fun H' v => v = (boo r)) := by
  refine Con.mk (N := 17) Tryd.func63 rfl rfl (by kernel_rfl) rfl ?_
  have S := St.start hw
  refine WP.seq ?_
  refine WP.region ?_
  refine WL.valw (R.as (v := (boo false)) rfl) ?_
  refine WL.nil ?_
  refine WP.seq ?_
  refine WP.seq ?_
  refine WP.region ?_
  refine WL.valw (R.mv (v := (str p_s)) rfl) ?_
  refine WL.valw (R.lenS (a := p_s) rfl Tryd.underlying9) ?_
  refine WL.valw (R.mv (v := (int 0)) rfl) ?_
  refine WL.nil ?_
  obtain ⟨r11, hr12, h⟩ := bindE h
  refine WP.cut (fun f w => match r11 with | .inl _ => ∃ (H6 : Hp), f 0 = (str p_s) ∧ St w0 H0 w H6 [] | .inr _ => False) ?_ ?_
  · refine WP.block ?_
    refine WP.loopM (ascii_Token_L0 p_s) (fun s f w => match s with | y_4 => ∃ (H1 : Hp), f 0 = (str p_s) ∧ f 5 = (int (p_s.length : Int)) ∧ f 6 = (int y_4) ∧ St w0 H0 w H1 []) 0 r11 hr12 ?_ ?_
    · exact ⟨H0, rfl, rfl, rfl, S⟩
    · intro y_4 f w hI y8 hy9 hy10
      obtain ⟨H1, h2, h3, h5, S⟩ := hI
      refine WP.seq ?_
      refine WP.region ?_
      refine WL.valw (R.lss h5 h3) ?_
      refine WL.nil ?_
      refine WP.seq ?_
      rcases condE hy9 with ⟨hc13, hy9⟩ | ⟨hc13, hy9⟩
      · refine WP.condT rfl hc13 ?_
        refine WP.skip ?_
        refine WP.seq ?_
        refine WP.block ?_
        refine WP.seq ?_
        refine WP.region ?_
        refine WL.valw (R.mv (v := (int y_4)) h5) ?_
        refine WL.valw (R.as (v := (int y_4)) rfl) ?_
        refine WL.nil ?_
        refine WP.seq ?_
        refine WP.region ?_
        refine WL.valw (R.mv (v := (str p_s)) h2) ?_
        refine WL.valw (R.mv (v := (int y_4)) rfl) ?_
        obtain ⟨c14, hc14, hy9⟩ := bindE hy9
        refine WL.valw (R.idxS rfl rfl Tryd.underlying9 hc14) ?_
        obtain ⟨r15, hr15, hy9⟩ := bindE hy9
        refine W.call S rfl (ascii_part_ok S.holds c14 hr15) ?_
        rintro v16 w17 H18 hle19 S rfl
        refine WL.valw (R.not rfl) ?_
        refine WL.nil ?_
        rcases condE hy9 with ⟨hc20, hy9⟩ | ⟨hc20, hy9⟩
        · refine WP.condT rfl hc20 ?_
          refine WP.seq ?_
          refine WP.region ?_
          refine WL.valw (R.as (v := (boo false)) rfl) ?_
          refine WL.nil ?_
          obtain rfl := Option.some.inj hy9
          obtain rfl := hy10
          obtain rfl := Option.some.inj h
          refine WP.ret (Out.one rfl S rfl ?_)
          exact rfl
        · refine WP.condF rfl hc20 ?_
          refine WP.skip ?_
          refine WP.region ?_
          refine WL.valw (R.add h5 rfl) ?_
          refine WL.valw (R.mv (v := (int (wr (y_4 + 1)))) rfl) ?_
          refine WL.nil ?_
          obtain rfl := Option.some.inj hy9
          exact ⟨rfl, ⟨H18, h2, h3, rfl, S⟩⟩
      · refine WP.condF rfl hc13 ?_
        refine WP.exit ?_
        obtain rfl := Option.some.inj hy9
        obtain rfl := hy10
        exact ⟨H1, h2, S⟩
  · intro f w hM
    rcases r11 with _ | e
    · obtain ⟨H6, h7, S⟩ := hM
      refine WP.seq ?_
      refine WP.region ?_
      refine WL.valw (R.mv (v := (str p_s)) h7) ?_
      refine WL.valw (R.neqS (a := p_s) (b := []) rfl rfl) ?_
      refine WL.valw (R.as (v := (boo (p_s != []))) rfl) ?_
      refine WL.nil ?_
      obtain rfl := Option.some.inj h
      refine WP.ret (Out.one rfl S rfl ?_)
      exact rfl
    · exact hM.elim
set_option maxRecDepth 10000 in
set_option maxHeartbeats 4000000 in
theorem ascii_Text_ok {w0 : World} {H0 : Hp} (hw : Holds w0 H0) (p_s : Str) {r : Bool} (h : ascii_Text p_s = some r) :
    Con Tryd.prog 76 [(str p_s)] w0 H0 (fun H' v => v = (boo r)) := by
  refine Con.mk (N := 26) Tryd.func76 rfl rfl (by kernel_rfl) rfl ?_
  have S := St.start hw
  refine WP.seq ?_
  refine WP.region ?_
  refine WL.valw (R.as (v := (boo false)) rfl) ?_
  refine WL.nil ?_
  refine WP.seq ?_
  refine WP.seq ?_
  refine WP.region ?_
  refine WL.valw (R.mv (v := (str p_s)) rfl) ?_
  refine WL.valw (R.lenS (a := p_s) rfl Tryd.underlying9) ?_
  refine WL.valw (R.mv (v := (int 0)) rfl) ?_
  refine WL.nil ?_
  obtain ⟨r10, hr11, h⟩ := bindE h
  refine WP.cut (fun f w => match r10 with | .inl _ => ∃ (H6 : Hp), St w0 H0 w H6 [] | .inr _ => False) ?_ ?_
  · refine WP.block ?_
    refine WP.loopM (ascii_Text_L0 p_s) (fun s f w => match s with | y_4 => ∃ (H1 : Hp), f 0 = (str p_s) ∧ f 5 = (int (p_s.length : Int)) ∧ f 6 = (int y_4) ∧ St w0 H0 w H1 []) 0 r10 hr11 ?_ ?_
    · exact ⟨H0, rfl, rfl, rfl, S⟩
    · intro y_4 f w hI y7 hy8 hy9
      obtain ⟨H1, h2, h3, h5, S⟩ := hI
      refine WP.seq ?_
      refine WP.region ?_
      refine WL.valw (R.lss h5 h3) ?_
      refine WL.nil ?_
      refine WP.seq ?_
      rcases condE hy8 with ⟨hc12, hy8⟩ | ⟨hc12, hy8⟩
      · refine WP.condT rfl hc12 ?_
        refine WP.skip ?_
        refine WP.seq ?_
        refine WP.block ?_
        refine WP.seq ?_
        refine WP.region ?_
        refine WL.valw (R.mv (v := (int y_4)) h5) ?_
        refine WL.valw (R.as (v := (int y_4)) rfl) ?_
        refine WL.nil ?_
        refine WP.seq ?_
        refine WP.region ?_
        refine WL.valw (R.mv (v := (str p_s)) h2) ?_
        refine WL.valw (R.mv (v := (int y_4)) rfl) ?_
        obtain ⟨c13, hc13, hy8⟩ := bindE hy8
        refine WL.valw (R.idxS rfl rfl Tryd.underlying9 hc13) ?_
        refine WL.valw (R.lss8 (a := c13) (b := 32) rfl rfl) ?_
        refine WL.valw (R.mv (v := (boo (decide (c13 < 32)))) rfl) ?_
        obtain ⟨b17, hg15, hy8⟩ := bindE hy8
        refine WL.grp 5 [14, 15, 16, 17] 18 (boo b17) ?_ ?_
        · rcases boolE (decide (c13 < 32)) with hb14 | hb14
          · replace hg15 := condT hg15 hb14
            refine WL.gyes rfl rfl hb14 ?_
            refine WL.valw (R.mv (v := (str p_s)) h2) ?_
            refine WL.gyes rfl rfl hb14 ?_
            refine WL.valw (R.mv (v := (int y_4)) rfl) ?_
            refine WL.gyes rfl rfl hb14 ?_
            obtain ⟨c16, hc16, hg15⟩ := bindE hg15
            refine WL.valw (R.idxS rfl rfl Tryd.underlying9 hc16) ?_
            refine WL.gyes rfl rfl hb14 ?_
            refine WL.valw (R.neq8 (a := c16) (b := 9) rfl rfl) ?_
            refine WL.valw (R.pickT rfl hb14 rfl) ?_
            exact WL.nil ⟨(congrArg boo (Option.some.inj hg15)), (by repeat (first | refine agree_upd rfl ?_ | refine agree_upds' rfl ?_ | exact agree_refl)), rfl⟩
          · replace hg15 := condF hg15 hb14
            refine WL.gno rfl rfl hb14 ?_
            refine WL.gno rfl rfl hb14 ?_
            refine WL.gno rfl rfl hb14 ?_
            refine WL.gno rfl rfl hb14 ?_
            refine WL.valw (R.pickF rfl hb14 rfl) ?_
            exact WL.nil ⟨(congrArg boo (Option.some.inj hg15)), (by repeat (first | refine agree_upd rfl ?_ | refine agree_upds' rfl ?_ | exact agree_refl)), rfl⟩
        · intro us
          refine WL.valw (R.mv (v := (boo b17)) rfl) ?_
          obtain ⟨b21, hg19, hy8⟩ := bindE hy8
          refine WL.grp 5 [20, 21, 22, 23] 24 (boo b21) ?_ ?_
          · rcases boolE b17 with hb18 | hb18
            · replace hg19 := condT hg19 hb18
              refine WL.gno rfl rfl hb18 ?_
              refine WL.gno rfl rfl hb18 ?_
              refine WL.gno rfl rfl hb18 ?_
              refine WL.gno rfl rfl hb18 ?_
              refine WL.valw (R.pickT rfl hb18 rfl) ?_
              exact WL.nil ⟨(congrArg boo (Option.some.inj hg19)), (by repeat (first | refine agree_upd rfl ?_ | refine agree_upds' rfl ?_ | exact agree_refl)), rfl⟩
            · replace hg19 := condF hg19 hb18
              refine WL.gyes rfl rfl hb18 ?_
              refine WL.valw (R.mv (v := (str p_s)) h2) ?_
              refine WL.gyes rfl rfl hb18 ?_
              refine WL.valw (R.mv (v := (int y_4)) rfl) ?_
              refine WL.gyes rfl rfl hb18 ?_
              obtain ⟨c20, hc20, hg19⟩ := bindE hg19
              refine WL.valw (R.idxS rfl rfl Tryd.underlying9 hc20) ?_
              refine WL.gyes rfl rfl hb18 ?_
              refine WL.valw (R.eql8 (a := c20) (b := 127) rfl rfl) ?_
              refine WL.valw (R.pickF rfl hb18 rfl) ?_
              exact WL.nil ⟨(congrArg boo (Option.some.inj hg19)), (by repeat (first | refine agree_upd rfl ?_ | refine agree_upds' rfl ?_ | exact agree_refl)), rfl⟩
          · intro us
            refine WL.nil ?_
            rcases condE hy8 with ⟨hc22, hy8⟩ | ⟨hc22, hy8⟩
            · refine WP.condT rfl hc22 ?_
              refine WP.seq ?_
              refine WP.region ?_
              refine WL.valw (R.as (v := (boo false)) rfl) ?_
              refine WL.nil ?_
              obtain rfl := Option.some.inj hy8
              obtain rfl := hy9
              obtain rfl := Option.some.inj h
              refine WP.ret (Out.one rfl S rfl ?_)
              exact rfl
            · refine WP.condF rfl hc22 ?_
              refine WP.skip ?_
              refine WP.region ?_
              refine WL.valw (R.add h5 rfl) ?_
              refine WL.valw (R.mv (v := (int (wr (y_4 + 1)))) rfl) ?_
              refine WL.nil ?_
              obtain rfl := Option.some.inj hy8
              exact ⟨rfl, ⟨H1, h2, h3, rfl, S⟩⟩
      · refine WP.condF rfl hc12 ?_
        refine WP.exit ?_
        obtain rfl := Option.some.inj hy8
        obtain rfl := hy9
        exact ⟨H1, S⟩
  · intro f w hM
    rcases r10 with _ | e
    · obtain ⟨H6, S⟩ := hM
      refine WP.seq ?_
      refine WP.region ?_
      refine WL.valw (R.as (v := (boo true)) rfl) ?_
      refine WL.nil ?_
      obtain rfl := Option.some.inj h
      refine WP.ret (Out.one rfl S rfl ?_)
      exact rfl
    · exact hM.elim
set_option maxRecDepth 10000 in
set_option maxHeartbeats 4000000 in
theorem ascii_Unquote_ok {w0 : World} {H0 : Hp} (hw : Holds w0 H0) (p_s : Str) {r : (Str × Bool)} (h : ascii_Unquote p_s = some r) :
    Con Tryd.prog 65 [(str p_s)] w0 H0 (fun H' v => v = (.tuple ⟨[(str r.1), (boo r.2)]⟩)) := by
  refine Con.mk (N := 64) Tryd.func65 rfl rfl (by kernel_rfl) rfl ?_
  have S := St.start hw
  refine WP.seq ?_
  refine WP.region ?_
  refine WL.valw (R.as (v := (str [])) rfl) ?_
  refine WL.valw (R.as (v := (boo false)) rfl) ?_
  refine WL.nil ?_
  refine WP.seq ?_
  refine WP.seq ?_
  refine WP.region ?_
  refine WL.valw (R.mv (v := (str p_s)) rfl) ?_
  refine WL.valw (R.lenS (a := p_s) rfl Tryd.underlying9) ?_
  refine WL.valw (R.lss rfl rfl) ?_
  refine WL.valw (R.mv (v := (boo (decide ((p_s.length : Int) < 2)))) rfl) ?_
  obtain ⟨b4, hg2, h⟩ := bindE h
  refine WL.grp 4 [11, 12, 13] 14 (boo b4) ?_ ?_
  · rcases boolE (decide ((p_s.length : Int) < 2)) with hb1 | hb1
    · replace hg2 := condT hg2 hb1
      refine WL.gno rfl rfl hb1 ?_
      refine WL.gno rfl rfl hb1 ?_
      refine WL.gno rfl rfl hb1 ?_
      refine WL.valw (R.pickT rfl hb1 rfl) ?_
      exact WL.nil ⟨(congrArg boo (Option.some.inj hg2)), (by repeat (first | refine agree_upd rfl ?_ | refine agree_upds' rfl ?_ | exact agree_refl)), rfl⟩
    · replace hg2 := condF hg2 hb1
      refine WL.gyes rfl rfl hb1 ?_
      refine WL.valw (R.mv (v := (str p_s)) rfl) ?_
      refine WL.gyes rfl rfl hb1 ?_
      obtain ⟨c3, hc3, hg2⟩ := bindE hg2
      refine WL.valw (R.idxS rfl rfl Tryd.underlying9 hc3) ?_
      refine WL.gyes rfl rfl hb1 ?_
      refine WL.valw (R.neq8 (a := c3) (b := 34) rfl rfl) ?_
      refine WL.valw (R.pickF rfl hb1 rfl) ?_
      exact WL.nil ⟨(congrArg boo (Option.some.inj hg2)), (by repeat (first | refine agree_upd rfl ?_ | refine agree_upds' rfl ?_ | exact agree_refl)), rfl⟩
  · intro us
    refine WL.valw (R.mv (v := (boo b4)) rfl) ?_
    obtain ⟨b8, hg6, h⟩ := bindE h
    refine WL.grp 7 [16, 17, 18, 19, 20, 21] 22 (boo b8) ?_ ?_
    · rcases boolE b4 with hb5 | hb5
      · replace hg6 := condT hg6 hb5
        refine WL.gno rfl rfl hb5 ?_
        refine WL.gno rfl rfl hb5 ?_
        refine WL.gno rfl rfl hb5 ?_
        refine WL.gno rfl rfl hb5 ?_
        refine WL.gno rfl rfl hb5 ?_
        refine WL.gno rfl rfl hb5 ?_
        refine WL.valw (R.pickT rfl hb5 rfl) ?_
        exact WL.nil ⟨(congrArg boo (Option.some.inj hg6)), (by repeat (first | refine agree_upd rfl ?_ | refine agree_upds' rfl ?_ | exact agree_refl)), rfl⟩
      · replace hg6 := condF hg6 hb5
        refine WL.gyes rfl rfl hb5 ?_
        refine WL.valw (R.mv (v := (str p_s)) rfl) ?_
        refine WL.gyes rfl rfl hb5 ?_
        refine WL.valw (R.mv (v := (str p_s)) rfl) ?_
        refine WL.gyes rfl rfl hb5 ?_
        refine WL.valw (R.lenS (a := p_s) rfl Tryd.underlying9) ?_
        refine WL.gyes rfl rfl hb5 ?_
        refine WL.valw (R.sub rfl rfl) ?_
        refine WL.gyes rfl rfl hb5 ?_
        obtain ⟨c7, hc7, hg6⟩ := bindE hg6
        refine WL.valw (R.idxS rfl rfl Tryd.underlying9 hc7) ?_
        refine WL.gyes rfl rfl hb5 ?_
        refine WL.valw (R.neq8 (a := c7) (b := 34) rfl rfl) ?_
        refine WL.valw (R.pickF rfl hb5 rfl) ?_
        exact WL.nil ⟨(congrArg boo (Option.some.inj hg6)), (by repeat (first | refine agree_upd rfl ?_ | refine agree_upds' rfl ?_ | exact agree_refl)), rfl⟩
    · intro us
      refine WL.valw (R.mv (v := (boo b8)) rfl) ?_
      obtain ⟨b17, hg10, h⟩ := bindE h
      refine WL.grpw 8 [24, 25, 26, 27, 28, 29, 30] 31 (boo b17) (fun w => ∃ H' : Hp, H0.le H' ∧ St w0 H0 w H' []) ?_ ?_
      · rcases boolE b8 with hb9 | hb9
        · replace hg10 := condT hg10 hb9
          refine WL.gno rfl rfl hb9 ?_
          refine WL.gno rfl rfl hb9 ?_
          refine WL.gno rfl rfl hb9 ?_
          refine WL.gno rfl rfl hb9 ?_
          refine WL.gno rfl rfl hb9 ?_
          refine WL.gno rfl rfl hb9 ?_
          refine WL.gno rfl rfl hb9 ?_
          refine WL.valw (R.pickT rfl hb9 rfl) ?_
          exact WL.nil ⟨(congrArg boo (Option.some.inj hg10)), (by repeat (first | refine agree_upd rfl ?_ | refine agree_upds' rfl ?_ | exact agree_refl)), ⟨H0, (Hp.le.refl _), S⟩⟩
        · replace hg10 := condF hg10 hb9
          refine WL.gyes rfl rfl hb9 ?_
          refine WL.valw (R.mv (v := (str p_s)) rfl) ?_
          refine WL.gyes rfl rfl hb9 ?_
          refine WL.valw (R.mv (v := (str p_s)) rfl) ?_
          refine WL.gyes rfl rfl hb9 ?_
          refine WL.valw (R.lenS (a := p_s) rfl Tryd.underlying9) ?_
          refine WL.gyes rfl rfl hb9 ?_
          refine WL.valw (R.sub rfl rfl) ?_
          refine WL.gyes rfl rfl hb9 ?_
          obtain ⟨s11, hs11, hg10⟩ := bindE hg10
          refine WL.valw (R.subS rfl rfl rfl Tryd.underlying9 hs11) ?_
          refine WL.gyes rfl rfl hb9 ?_
          obtain ⟨r12, hr12, hg10⟩ := bindE hg10
          refine W.call S rfl (ascii_Text_ok S.holds s11 hr12) ?_
          rintro v13 w14 H15 hle16 S rfl
          refine WL.gyes rfl rfl hb9 ?_
          refine WL.valw (R.not rfl) ?_
          refine WL.valw (R.pickF rfl hb9 rfl) ?_
          exact WL.nil ⟨(congrArg boo (Option.some.inj hg10)), (by repeat (first | refine agree_upd rfl ?_ | refine agree_upds' rfl ?_ | exact agree_refl)), ⟨H15, hle16, S⟩⟩
      · intro us w19 ⟨H18, hle20, S⟩
        refine WL.nil ?_
        rcases condE h with ⟨hc21, h⟩ | ⟨hc21, h⟩
        · refine WP.condT rfl hc21 ?_
          refine WP.seq ?_
          refine WP.region ?_
          refine WL.valw (R.as (v := (str [])) rfl) ?_
          refine WL.valw (R.as (v := (boo false)) rfl) ?_
          refine WL.nil ?_
          obtain rfl := Option.some.inj h
          refine WP.ret (Out.two rfl S rfl rfl ?_)
          exact rfl
        · refine WP.condF rfl hc21 ?_
          refine WP.skip ?_
          refine WP.seq ?_
          refine WP.region ?_
          refine WL.valw (R.mv (v := (str p_s)) rfl) ?_
          refine WL.valw (R.mv (v := (str p_s)) rfl) ?_
          refine WL.valw (R.lenS (a := p_s) rfl Tryd.underlying9) ?_
          refine WL.valw (R.sub rfl rfl) ?_
          obtain ⟨s22, hs22, h⟩ := bindE h
          refine WL.valw (R.subS rfl rfl rfl Tryd.underlying9 hs22) ?_
          refine WL.valw (R.as (v := (str s22)) rfl) ?_
          refine WL.nil ?_
          refine WP.seq ?_
          refine WP.region ?_
          refine WL.valw (R.as (v := (.slice none 0 0)) rfl) ?_
          refine WL.nil ?_
          refine WP.seq ?_
          refine WP.seq ?_
          refine WP.region ?_
          refine WL.valw (R.as (v := (int 0)) rfl) ?_
          refine WL.nil ?_
          have S := S.addNil 5 1
          obtain ⟨r39, hr40, h⟩ := bindE h
          refine WP.cut (fun f w => match r39 with | .inl out_32 => ∃ (H31 : Hp) (v33 : Value), f 5 = v33 ∧ Sl (α := UInt8) H31 v33 out_32 ∧ St w0 H0 w H31 [.row v33 5 1 out_32.length] | .inr _ => False) ?_ ?_
          · refine WP.block ?_
            refine WP.loopM (ascii_Unquote_L0 s22) (fun s f w => match s with | (out_25, i_29) => ∃ (H23 : Hp) (v26 : Value), f 4 = (str s22) ∧ f 5 = v26 ∧ f 6 = (int i_29) ∧ Sl (α := UInt8) H23 v26 out_25 ∧ St w0 H0 w H23 [.row v26 5 1 out_25.length]) (([] : List UInt8), 0) r39 hr40 ?_ ?_
            · exact ⟨H18, .slice none 0 0, rfl, rfl, rfl, Sl.nil, S⟩
            · intro s f w hI y36 hy37 hy38
              obtain ⟨out_25, i_29⟩ := s
              obtain ⟨H23, v26, h24, h28, h30, R27, S⟩ := hI
              refine WP.seq ?_
              refine WP.seq ?_
              refine WP.region ?_
              refine WL.valw (R.mv (v := (int i_29)) h30) ?_
              refine WL.valw (R.mv (v := (str s22)) h24) ?_
              refine WL.valw (R.lenS (a := s22) rfl Tryd.underlying9) ?_
              refine WL.valw (R.lss rfl rfl) ?_
              refine WL.nil ?_
              rcases condE hy37 with ⟨hc41, hy37⟩ | ⟨hc41, hy37⟩
              · refine WP.condT rfl hc41 ?_
                refine WP.skip ?_
                refine WP.seq ?_
                refine WP.block ?_
                refine WP.seq ?_
                refine WP.seq ?_
                refine WP.region ?_
                refine WL.valw (R.mv (v := (str s22)) h24) ?_
                refine WL.valw (R.mv (v := (int i_29)) h30) ?_
                obtain ⟨c42, hc42, hy37⟩ := bindE hy37
                refine WL.valw (R.idxS rfl rfl Tryd.underlying9 hc42) ?_
                refine WL.nil ?_
                obtain ⟨j49, hj48, hy37⟩ := bindE hy37
                refine WP.cut (fun f w => match j49 with | .inl i_46 => ∃ (H43 : Hp), f 4 = (str s22) ∧ f 5 = v26 ∧ f 6 = (int i_46) ∧ Sl (α := UInt8) H43 v26 out_25 ∧ St w0 H0 w H43 [.row v26 5 1 out_25.length] | .inr _ => False) ?_ ?_
                · refine WP.block ?_
                  refine WP.seq ?_
                  refine WP.region ?_
                  refine WL.valw (R.eql8 (a := c42) (b := 34) rfl rfl) ?_
                  refine WL.valw (R.as (v := (boo (c42 == 34))) rfl) ?_
                  refine WL.nil ?_
                  rcases condE hj48 with ⟨hc50, hj48⟩ | ⟨hc50, hj48⟩
                  · refine WP.condT rfl hc50 ?_
                    refine WP.seq ?_
                    refine WP.region ?_
                    refine WL.valw (R.as (v := (str [])) rfl) ?_
                    refine WL.valw (R.as (v := (boo false)) rfl) ?_
                    refine WL.nil ?_
                    obtain rfl := Option.some.inj hj48
                    obtain rfl := Option.some.inj hy37
                    obtain rfl := hy38
                    obtain rfl := Option.some.inj h
                    refine WP.ret (Out.two rfl S rfl rfl ?_)
                    exact rfl
                  · refine WP.condF rfl hc50 ?_
                    refine WP.seq ?_
                    refine WP.region ?_
                    refine WL.valw (R.eql8 (a := c42) (b := 92) rfl rfl) ?_
                    refine WL.valw (R.as (v := (boo (c42 == 92))) rfl) ?_
                    refine WL.nil ?_
                    rcases condE hj48 with ⟨hc51, hj48⟩ | ⟨hc51, hj48⟩
                    · refine WP.condT rfl hc51 ?_
                      refine WP.seq ?_
                      refine WP.region ?_
                      refine WL.valw (R.mv (v := (int i_29)) h30) ?_
                      refine WL.valw (R.add rfl rfl) ?_
                      refine WL.valw (R.as (v := (int (wr (i_29 + 1)))) rfl) ?_
                      refine WL.nil ?_
                      refine WP.seq ?_
                      refine WP.region ?_
                      refine WL.valw (R.mv (v := (int (wr (i_29 + 1)))) rfl) ?_
                      refine WL.valw (R.mv (v := (str s22)) h24) ?_
                      refine WL.valw (R.lenS (a := s22) rfl Tryd.underlying9) ?_
                      refine WL.valw (R.eql rfl rfl) ?_
                      refine WL.nil ?_
                      rcases condE hj48 with ⟨hc52, hj48⟩ | ⟨hc52, hj48⟩
                      · refine WP.condT rfl hc52 ?_
                        refine WP.seq ?_
                        refine WP.region ?_
                        refine WL.valw (R.as (v := (str [])) rfl) ?_
                        refine WL.valw (R.as (v := (boo false)) rfl) ?_
                        refine WL.nil ?_
                        obtain rfl := Option.some.inj hj48
                        obtain rfl := Option.some.inj hy37
                        obtain rfl := hy38
                        obtain rfl := Option.some.inj h
                        refine WP.ret (Out.two rfl S rfl rfl ?_)
                        exact rfl
                      · refine WP.condF rfl hc52 ?_
                        refine WP.skip ?_
                        obtain rfl := Option.some.inj hj48
                        exact ⟨H23, h24, h28, rfl, R27, S⟩
                    · refine WP.condF rfl hc51 ?_
                      refine WP.skip ?_
                      obtain rfl := Option.some.inj hj48
                      exact ⟨H23, h24, h28, h30, R27, S⟩
                · intro f w hM
                  rcases j49 with i_46 | e
                  · obtain ⟨H43, h44, h45, h47, R27, S⟩ := hM
                    refine WP.region ?_
                    refine WL.valw (R.mv (v := v26) h45) ?_
                    refine WL.valw (R.mv (v := (str s22)) h44) ?_
                    refine WL.valw (R.mv (v := (int i_46)) h47) ?_
                    obtain ⟨c53, hc53, hy37⟩ := bindE hy37
                    refine WL.valw (R.idxS rfl rfl Tryd.underlying9 hc53) ?_
                    refine W.bslice (α := UInt8) [(byt c53)] ([c53] : List UInt8) S el51 rfl rfl rfl (by decide) (encS ⟨rfl, rfl⟩ enc0) ?_
                    intro u54 w55 H56 hle57 R58 S
                    have R27 := Sl.mono R27 hle57
                    obtain ⟨l59, hl59, hy37⟩ := bindE hy37
                    refine W.app (α := UInt8) (i := 1) S el51 rfl rfl rfl R27 R58 hl59 ?_
                    intro v60 w61 H62 hle63 R64 S
                    have R27 := Sl.mono R27 hle63
                    have R58 := Sl.mono R58 hle63
                    refine WL.valw (R.as (v := v60) rfl) ?_
                    refine WL.nil ?_
                    refine WP.region ?_
                    refine WL.valw (R.mv (v := (int i_46)) h47) ?_
                    refine WL.valw (R.add rfl rfl) ?_
                    refine WL.valw (R.as (v := (int (wr (i_46 + 1)))) rfl) ?_
                    refine WL.nil ?_
                    obtain rfl := Option.some.inj hy37
                    exact ⟨rfl, ⟨H62, v60, h44, rfl, rfl, R64, (S.drop _ (.cons _ (.cons_cons _ .slnil)))⟩⟩
                  · exact hM.elim
              · refine WP.condF rfl hc41 ?_
                refine WP.exit ?_
                obtain rfl := Option.some.inj hy37
                obtain rfl := hy38
                exact ⟨H23, v26, h28, R27, S⟩
          · intro f w hM
            rcases r39 with out_32 | e
            · obtain ⟨H31, v33, h35, R34, S⟩ := hM
              refine WP.seq ?_
              refine WP.region ?_
              refine WL.valw (R.mv (v := v33) h35) ?_
              refine WL.valw (R.strL S R34 rfl Tryd.underlying51 Tryd.underlying9 Tryd.underlying5) ?_
              refine WL.valw (R.as (v := (str out_32)) rfl) ?_
              refine WL.valw (R.as (v := (boo true)) rfl) ?_
              refine WL.nil ?_
              obtain rfl := Option.some.inj h
              refine WP.ret (Out.two rfl S rfl rfl ?_)
              exact rfl
            · exact hM.elim
end Go.Proofs
