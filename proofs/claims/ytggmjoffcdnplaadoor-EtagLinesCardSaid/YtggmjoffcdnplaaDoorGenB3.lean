/- A part of the proof of laws of the seat: written by program over the translation. -/
import Derived.Test.YtggmjoffcdnplaaDoorGenB2
namespace Go.Proofs
open Go.Eng Go.Eng.Pure
set_option linter.unusedVariables false
set_option maxHeartbeats 4000000 in
theorem ref01_blank_ok {w0 : World} {H0 : Hp} (hw : Holds w0 H0) (p_c : UInt8) {r : Bool} (h : ref01_blank p_c = some r) :
    Con Tryd.prog 61 [(byt p_c)] w0 H0 (fun H' v => v = (boo r)) := by
  refine Con.mk (N := 9) Tryd.func61 rfl rfl (by kernel_rfl) rfl ?_
  have S := St.start hw
  refine WP.seq ?_
  refine WP.region ?_
  refine WL.valw (R.as (v := (boo false)) rfl) ?_
  refine WL.nil ?_
  refine WP.seq ?_
  refine WP.region ?_
  refine WL.valw (R.mv (v := (byt p_c)) rfl) ?_
  refine WL.valw (R.eql8 (a := p_c) (b := 32) rfl rfl) ?_
  refine WL.valw (R.mv (v := (boo (p_c == 32))) rfl) ?_
  refine WL.grp 3 [6, 7] 8 (boo ((p_c == 32) || (p_c == 9))) ?_ ?_
  · rcases boolE (p_c == 32) with hb1 | hb1
    · refine WL.gno rfl rfl hb1 ?_
      refine WL.gno rfl rfl hb1 ?_
      refine WL.valw (R.pickT rfl hb1 rfl) ?_
      exact WL.nil ⟨(orT hb1), (by repeat (first | refine agree_upd rfl ?_ | refine agree_upds' rfl ?_ | exact agree_refl)), rfl⟩
    · refine WL.gyes rfl rfl hb1 ?_
      refine WL.valw (R.mv (v := (byt p_c)) rfl) ?_
      refine WL.gyes rfl rfl hb1 ?_
      refine WL.valw (R.eql8 (a := p_c) (b := 9) rfl rfl) ?_
      refine WL.valw (R.pickF rfl hb1 rfl) ?_
      exact WL.nil ⟨(orF hb1), (by repeat (first | refine agree_upd rfl ?_ | refine agree_upds' rfl ?_ | exact agree_refl)), rfl⟩
  · intro us
    refine WL.valw (R.as (v := (boo ((p_c == 32) || (p_c == 9)))) rfl) ?_
    refine WL.nil ?_
    obtain rfl := Option.some.inj h
    refine WP.ret (Out.one rfl S rfl ?_)
    exact rfl
set_option maxHeartbeats 4000000 in
theorem ref01_Trim_ok {w0 : World} {H0 : Hp} (hw : Holds w0 H0) (p_s : Str) {r : Str} (h : ref01_Trim p_s = some r) :
    Con Tryd.prog 44 [(str p_s)] w0 H0 (fun H' v => v = (str r)) := by
  refine Con.mk (N := 30) Tryd.func44 rfl rfl (by kernel_rfl) rfl ?_
  have S := St.start hw
  refine WP.seq ?_
  refine WP.region ?_
  refine WL.valw (R.as (v := (str [])) rfl) ?_
  refine WL.nil ?_
  refine WP.seq ?_
  obtain ⟨s_5, hr11, h⟩ := bindE h
  refine WP.cut (fun f w => ∃ (H4 : Hp), f 0 = (str s_5) ∧ St w0 H0 w H4 []) ?_ ?_
  · refine WP.block ?_
    refine WP.loopM (ref01_Trim_L0) (fun s f w => match s with | s_2 => ∃ (H1 : Hp), f 0 = (str s_2) ∧ St w0 H0 w H1 []) p_s s_5 hr11 ?_ ?_
    · exact ⟨H0, rfl, S⟩
    · intro s_2 f w hI y7 hy8 hy9
      obtain ⟨H1, h3, S⟩ := hI
      refine WP.seq ?_
      refine WP.seq ?_
      refine WP.region ?_
      refine WL.valw (R.mv (v := (str s_2)) h3) ?_
      refine WL.valw (R.lenS (a := s_2) rfl Tryd.underlying9) ?_
      refine WL.valw (R.gtr rfl rfl) ?_
      refine WL.valw (R.mv (v := (boo (decide (0 < (s_2.length : Int))))) rfl) ?_
      obtain ⟨b20, hg13, hy8⟩ := bindE hy8
      refine WL.grpw 4 [7, 8, 9] 10 (boo b20) (fun w => ∃ H' : Hp, H1.le H' ∧ St w0 H0 w H' []) ?_ ?_
      · rcases boolE (decide (0 < (s_2.length : Int))) with hb12 | hb12
        · replace hg13 := condT hg13 hb12
          refine WL.gyes rfl rfl hb12 ?_
          refine WL.valw (R.mv (v := (str s_2)) h3) ?_
          refine WL.gyes rfl rfl hb12 ?_
          obtain ⟨c14, hc14, hg13⟩ := bindE hg13
          refine WL.valw (R.idxS rfl rfl Tryd.underlying9 hc14) ?_
          refine WL.gyes rfl rfl hb12 ?_
          obtain ⟨r15, hr15, hg13⟩ := bindE hg13
          refine W.call S rfl (ref01_blank_ok S.holds c14 hr15) ?_
          rintro v16 w17 H18 hle19 S rfl
          refine WL.valw (R.pickT rfl hb12 rfl) ?_
          exact WL.nil ⟨(congrArg boo (Option.some.inj hg13)), (by repeat (first | refine agree_upd rfl ?_ | refine agree_upds' rfl ?_ | exact agree_refl)), ⟨H18, hle19, S⟩⟩
        · replace hg13 := condF hg13 hb12
          refine WL.gno rfl rfl hb12 ?_
          refine WL.gno rfl rfl hb12 ?_
          refine WL.gno rfl rfl hb12 ?_
          refine WL.valw (R.pickF rfl hb12 rfl) ?_
          exact WL.nil ⟨(congrArg boo (Option.some.inj hg13)), (by repeat (first | refine agree_upd rfl ?_ | refine agree_upds' rfl ?_ | exact agree_refl)), ⟨H1, (Hp.le.refl _), S⟩⟩
      · intro us w22 ⟨H21, hle23, S⟩
        refine WL.nil ?_
        rcases condE hy8 with ⟨hc24, hy8⟩ | ⟨hc24, hy8⟩
        · refine WP.condT rfl hc24 ?_
          refine WP.skip ?_
          refine WP.block ?_
          refine WP.region ?_
          refine WL.valw (R.mv (v := (str s_2)) h3) ?_
          obtain ⟨s25, hs25, hy8⟩ := bindE hy8
          refine WL.valw (R.subSlo rfl rfl Tryd.underlying9 hs25) ?_
          refine WL.valw (R.as (v := (str s25)) rfl) ?_
          refine WL.nil ?_
          obtain rfl := Option.some.inj hy8
          exact ⟨rfl, ⟨H21, rfl, S⟩⟩
        · refine WP.condF rfl hc24 ?_
          refine WP.exit ?_
          obtain rfl := Option.some.inj hy8
          obtain rfl := hy9
          exact ⟨H21, h3, S⟩
  · rintro f w ⟨H4, h6, S⟩
    refine WP.seq ?_
    obtain ⟨s_30, hr36, h⟩ := bindE h
    refine WP.cut (fun f w => ∃ (H29 : Hp), f 0 = (str s_30) ∧ St w0 H0 w H29 []) ?_ ?_
    · refine WP.block ?_
      refine WP.loopM (ref01_Trim_L1) (fun s f w => match s with | s_27 => ∃ (H26 : Hp), f 0 = (str s_27) ∧ St w0 H0 w H26 []) s_5 s_30 hr36 ?_ ?_
      · exact ⟨H4, h6, S⟩
      · intro s_27 f w hI y32 hy33 hy34
        obtain ⟨H26, h28, S⟩ := hI
        refine WP.seq ?_
        refine WP.seq ?_
        refine WP.region ?_
        refine WL.valw (R.mv (v := (str s_27)) h28) ?_
        refine WL.valw (R.lenS (a := s_27) rfl Tryd.underlying9) ?_
        refine WL.valw (R.gtr rfl rfl) ?_
        refine WL.valw (R.mv (v := (boo (decide (0 < (s_27.length : Int))))) rfl) ?_
        obtain ⟨b45, hg38, hy33⟩ := bindE hy33
        refine WL.grpw 7 [17, 18, 19, 20, 21, 22] 23 (boo b45) (fun w => ∃ H' : Hp, H26.le H' ∧ St w0 H0 w H' []) ?_ ?_
        · rcases boolE (decide (0 < (s_27.length : Int))) with hb37 | hb37
          · replace hg38 := condT hg38 hb37
            refine WL.gyes rfl rfl hb37 ?_
            refine WL.valw (R.mv (v := (str s_27)) h28) ?_
            refine WL.gyes rfl rfl hb37 ?_
            refine WL.valw (R.mv (v := (str s_27)) h28) ?_
            refine WL.gyes rfl rfl hb37 ?_
            refine WL.valw (R.lenS (a := s_27) rfl Tryd.underlying9) ?_
            refine WL.gyes rfl rfl hb37 ?_
            refine WL.valw (R.sub rfl rfl) ?_
            refine WL.gyes rfl rfl hb37 ?_
            obtain ⟨c39, hc39, hg38⟩ := bindE hg38
            refine WL.valw (R.idxS rfl rfl Tryd.underlying9 hc39) ?_
            refine WL.gyes rfl rfl hb37 ?_
            obtain ⟨r40, hr40, hg38⟩ := bindE hg38
            refine W.call S rfl (ref01_blank_ok S.holds c39 hr40) ?_
            rintro v41 w42 H43 hle44 S rfl
            refine WL.valw (R.pickT rfl hb37 rfl) ?_
            exact WL.nil ⟨(congrArg boo (Option.some.inj hg38)), (by repeat (first | refine agree_upd rfl ?_ | refine agree_upds' rfl ?_ | exact agree_refl)), ⟨H43, hle44, S⟩⟩
          · replace hg38 := condF hg38 hb37
            refine WL.gno rfl rfl hb37 ?_
            refine WL.gno rfl rfl hb37 ?_
            refine WL.gno rfl rfl hb37 ?_
            refine WL.gno rfl rfl hb37 ?_
            refine WL.gno rfl rfl hb37 ?_
            refine WL.gno rfl rfl hb37 ?_
            refine WL.valw (R.pickF rfl hb37 rfl) ?_
            exact WL.nil ⟨(congrArg boo (Option.some.inj hg38)), (by repeat (first | refine agree_upd rfl ?_ | refine agree_upds' rfl ?_ | exact agree_refl)), ⟨H26, (Hp.le.refl _), S⟩⟩
        · intro us w47 ⟨H46, hle48, S⟩
          refine WL.nil ?_
          rcases condE hy33 with ⟨hc49, hy33⟩ | ⟨hc49, hy33⟩
          · refine WP.condT rfl hc49 ?_
            refine WP.skip ?_
            refine WP.block ?_
            refine WP.region ?_
            refine WL.valw (R.mv (v := (str s_27)) h28) ?_
            refine WL.valw (R.mv (v := (str s_27)) h28) ?_
            refine WL.valw (R.lenS (a := s_27) rfl Tryd.underlying9) ?_
            refine WL.valw (R.sub rfl rfl) ?_
            obtain ⟨s50, hs50, hy33⟩ := bindE hy33
            refine WL.valw (R.subShi rfl rfl Tryd.underlying9 hs50) ?_
            refine WL.valw (R.as (v := (str s50)) rfl) ?_
            refine WL.nil ?_
            obtain rfl := Option.some.inj hy33
            exact ⟨rfl, ⟨H46, rfl, S⟩⟩
          · refine WP.condF rfl hc49 ?_
            refine WP.exit ?_
            obtain rfl := Option.some.inj hy33
            obtain rfl := hy34
            exact ⟨H46, h28, S⟩
    · rintro f w ⟨H29, h31, S⟩
      refine WP.seq ?_
      refine WP.region ?_
      refine WL.valw (R.mv (v := (str s_30)) h31) ?_
      refine WL.valw (R.as (v := (str s_30)) rfl) ?_
      refine WL.nil ?_
      obtain rfl := Option.some.inj h
      refine WP.ret (Out.one rfl S rfl ?_)
      exact rfl
set_option maxHeartbeats 4000000 in
theorem ref01_Split_ok {w0 : World} {H0 : Hp} (hw : Holds w0 H0) (p_value : Str) {r : (List Str)} (h : ref01_Split p_value = some r) :
    Con Tryd.prog 22 [(str p_value)] w0 H0 (fun H' v => Sl (α := Str) H' v r) := by
  refine Con.mk (N := 32) Tryd.func22 rfl rfl (by kernel_rfl) rfl ?_
  have S := St.start hw
  refine WP.seq ?_
  refine WP.region ?_
  refine WL.valw (R.as (v := (.slice none 0 0)) rfl) ?_
  refine WL.nil ?_
  refine WP.seq ?_
  refine WP.region ?_
  refine WL.valw (R.as (v := (.slice none 0 0)) rfl) ?_
  refine WL.nil ?_
  refine WP.seq ?_
  refine WP.region ?_
  refine WL.valw (R.mv (v := (str p_value)) rfl) ?_
  obtain ⟨r1, hr1, h⟩ := bindE h
  refine W.call S rfl (ref01_Cut_ok S.holds p_value 44 hr1) ?_
  rintro v2 w3 H4 hle5 S R6
  refine WL.valw (R.as (v := v2) rfl) ?_
  refine WL.nil ?_
  refine WP.seq ?_
  refine WP.seq ?_
  refine WP.region ?_
  refine WL.valw (R.as (v := (int 0)) rfl) ?_
  refine WL.nil ?_
  have S := S.addNil 9 1
  obtain ⟨out_16, hr24, h⟩ := bindE h
  refine WP.cut (fun f w => ∃ (H15 : Hp) (v17 : Value), f 3 = v17 ∧ Sl (α := Str) H15 v17 out_16 ∧ St w0 H0 w H15 [.row v17 9 1 out_16.length]) ?_ ?_
  · refine WP.block ?_
    refine WP.loopM (ref01_Split_L0 r1) (fun s f w => match s with | (out_8, i_13) => ∃ (H7 : Hp) (v9 : Value), f 3 = v9 ∧ f 4 = v2 ∧ f 5 = (int i_13) ∧ Sl (α := Str) H7 v9 out_8 ∧ Sl (α := Str) H7 v2 r1 ∧ St w0 H0 w H7 [.row v9 9 1 out_8.length]) (([] : List Str), 0) out_16 hr24 ?_ ?_
    · exact ⟨H4, .slice none 0 0, rfl, rfl, rfl, Sl.nil, R6, S⟩
    · intro s f w hI y20 hy21 hy22
      obtain ⟨out_8, i_13⟩ := s
      obtain ⟨H7, v9, h11, h12, h14, R10, R6, S⟩ := hI
      refine WP.seq ?_
      refine WP.seq ?_
      refine WP.region ?_
      refine WL.valw (R.mv (v := (int i_13)) h14) ?_
      refine WL.valw (R.mv (v := v2) h12) ?_
      refine WL.valw (R.lenL (α := Str) (xs := r1) (H := H7) R6 rfl Tryd.underlying31) ?_
      refine WL.valw (R.lss rfl rfl) ?_
      refine WL.valw (R.mv (v := (boo (decide (i_13 < (r1.length : Int))))) rfl) ?_
      refine WL.grp 4 [14, 15, 16] 17 (boo ((decide (i_13 < (r1.length : Int))) && (decide ((out_8.length : Int) < 64)))) ?_ ?_
      · rcases boolE (decide (i_13 < (r1.length : Int))) with hb25 | hb25
        · refine WL.gyes rfl rfl hb25 ?_
          refine WL.valw (R.mv (v := v9) h11) ?_
          refine WL.gyes rfl rfl hb25 ?_
          refine WL.valw (R.lenL (α := Str) (xs := out_8) (H := H7) R10 rfl Tryd.underlying31) ?_
          refine WL.gyes rfl rfl hb25 ?_
          refine WL.valw (R.lss rfl rfl) ?_
          refine WL.valw (R.pickT rfl hb25 rfl) ?_
          exact WL.nil ⟨(andT hb25), (by repeat (first | refine agree_upd rfl ?_ | refine agree_upds' rfl ?_ | exact agree_refl)), rfl⟩
        · refine WL.gno rfl rfl hb25 ?_
          refine WL.gno rfl rfl hb25 ?_
          refine WL.gno rfl rfl hb25 ?_
          refine WL.valw (R.pickF rfl hb25 rfl) ?_
          exact WL.nil ⟨(andF hb25), (by repeat (first | refine agree_upd rfl ?_ | refine agree_upds' rfl ?_ | exact agree_refl)), rfl⟩
      · intro us
        refine WL.nil ?_
        rcases condE hy21 with ⟨hc27, hy21⟩ | ⟨hc27, hy21⟩
        · refine WP.condT rfl hc27 ?_
          refine WP.skip ?_
          refine WP.seq ?_
          refine WP.block ?_
          refine WP.seq ?_
          refine WP.region ?_
          refine WL.valw (R.mv (v := v2) h12) ?_
          refine WL.valw (R.mv (v := (int i_13)) h14) ?_
          obtain ⟨x28, hx28, hy21⟩ := bindE hy21
          refine W.idx (α := Str) R6 rfl rfl el31 hx28 ?_
          rintro a29 _ hA30 rfl
          refine WL.valw (R.loadH (v := (str x28)) S rfl hA30 lay9 rfl) ?_
          obtain ⟨r31, hr31, hy21⟩ := bindE hy21
          refine W.call S rfl (ref01_Trim_ok S.holds x28 hr31) ?_
          rintro v32 w33 H34 hle35 S rfl
          have R10 := Sl.mono R10 hle35
          have R6 := Sl.mono R6 hle35
          have hA30 := At.mono hA30 hle35 (by simp)
          refine WL.valw (R.as (v := (str r31)) rfl) ?_
          refine WL.nil ?_
          refine WP.seq ?_
          refine WP.region ?_
          refine WL.valw (R.mv (v := (str r31)) rfl) ?_
          refine WL.valw (R.neqS (a := r31) (b := []) rfl rfl) ?_
          refine WL.nil ?_
          rcases condE hy21 with ⟨hc36, hy21⟩ | ⟨hc36, hy21⟩
          · refine WP.condT rfl hc36 ?_
            refine WP.region ?_
            refine WL.valw (R.mv (v := v9) h11) ?_
            refine WL.valw (R.mv (v := (str r31)) rfl) ?_
            refine W.bslice (α := Str) [(str r31)] ([r31] : List Str) S el31 rfl rfl rfl (by decide) (encS ⟨rfl, rfl⟩ enc0) ?_
            intro u37 w38 H39 hle40 R41 S
            have R10 := Sl.mono R10 hle40
            have R6 := Sl.mono R6 hle40
            have hA30 := At.mono hA30 hle40 (by simp)
            obtain ⟨l42, hl42, hy21⟩ := bindE hy21
            refine W.app (α := Str) (i := 1) S el31 rfl rfl rfl R10 R41 hl42 ?_
            intro v43 w44 H45 hle46 R47 S
            have R10 := Sl.mono R10 hle46
            have R6 := Sl.mono R6 hle46
            have hA30 := At.mono hA30 hle46 (by simp)
            have R41 := Sl.mono R41 hle46
            refine WL.valw (R.as (v := v43) rfl) ?_
            refine WL.nil ?_
            refine WP.region ?_
            refine WL.valw (R.mv (v := (int i_13)) h14) ?_
            refine WL.valw (R.add rfl rfl) ?_
            refine WL.valw (R.as (v := (int (wr (i_13 + 1)))) rfl) ?_
            refine WL.nil ?_
            obtain rfl := Option.some.inj hy21
            exact ⟨rfl, ⟨H45, v43, rfl, h12, rfl, R47, R6, (S.drop _ (.cons _ (.cons_cons _ .slnil)))⟩⟩
          · refine WP.condF rfl hc36 ?_
            refine WP.skip ?_
            refine WP.region ?_
            refine WL.valw (R.mv (v := (int i_13)) h14) ?_
            refine WL.valw (R.add rfl rfl) ?_
            refine WL.valw (R.as (v := (int (wr (i_13 + 1)))) rfl) ?_
            refine WL.nil ?_
            obtain rfl := Option.some.inj hy21
            exact ⟨rfl, ⟨H34, v9, h11, h12, rfl, R10, R6, S⟩⟩
        · refine WP.condF rfl hc27 ?_
          refine WP.exit ?_
          obtain rfl := Option.some.inj hy21
          obtain rfl := hy22
          exact ⟨H7, v9, h11, R10, S⟩
  · rintro f w ⟨H15, v17, h19, R18, S⟩
    refine WP.seq ?_
    refine WP.region ?_
    refine WL.valw (R.mv (v := v17) h19) ?_
    refine WL.valw (R.as (v := v17) rfl) ?_
    refine WL.nil ?_
    obtain rfl := Option.some.inj h
    refine WP.ret (Out.one rfl S rfl ?_)
    exact R18
set_option maxHeartbeats 4000000 in
theorem ref01_All_ok {w0 : World} {H0 : Hp} (hw : Holds w0 H0) (p_l : (List GField)) (p_name : Str) {vp_l : Value} (Rp_l : Sl (α := GField) H0 vp_l p_l) {r : (List Str)} (h : ref01_All p_l p_name = some r) :
    Con Tryd.prog 20 [vp_l, (str p_name)] w0 H0 (fun H' v => Sl (α := Str) H' v r) := by
  refine Con.mk (N := 43) Tryd.func20 rfl rfl (by kernel_rfl) rfl ?_
  have S := St.start hw
  refine WP.seq ?_
  refine WP.region ?_
  refine WL.valw (R.as (v := (.slice none 0 0)) rfl) ?_
  refine WL.nil ?_
  refine WP.seq ?_
  refine WP.region ?_
  refine WL.valw (R.as (v := (.slice none 0 0)) rfl) ?_
  refine WL.nil ?_
  refine WP.seq ?_
  refine WP.region ?_
  refine WL.valw (R.mv (v := vp_l) rfl) ?_
  refine WL.valw (R.mv (v := (str p_name)) rfl) ?_
  obtain ⟨r1, hr1, h⟩ := bindE h
  refine W.call S rfl (ref01_Get_ok S.holds p_l p_name Rp_l hr1) ?_
  rintro v2 w3 H4 hle5 S R6
  have Rp_l := Sl.mono Rp_l hle5
  refine WL.valw (R.as (v := v2) rfl) ?_
  refine WL.nil ?_
  refine WP.seq ?_
  refine WP.seq ?_
  refine WP.region ?_
  refine WL.valw (R.as (v := (int 0)) rfl) ?_
  refine WL.nil ?_
  have S := S.addNil 9 1
  obtain ⟨out_16, hr24, h⟩ := bindE h
  refine WP.cut (fun f w => ∃ (H15 : Hp) (v17 : Value), f 5 = v17 ∧ Sl (α := Str) H15 v17 out_16 ∧ St w0 H0 w H15 [.row v17 9 1 out_16.length]) ?_ ?_
  · refine WP.block ?_
    refine WP.loopM (ref01_All_L1 r1) (fun s f w => match s with | (out_8, i_13) => ∃ (H7 : Hp) (v9 : Value), f 5 = v9 ∧ f 6 = v2 ∧ f 7 = (int i_13) ∧ Sl (α := Str) H7 v9 out_8 ∧ Sl (α := Str) H7 v2 r1 ∧ St w0 H0 w H7 [.row v9 9 1 out_8.length]) (([] : List Str), 0) out_16 hr24 ?_ ?_
    · exact ⟨H4, .slice none 0 0, rfl, rfl, rfl, Sl.nil, R6, S⟩
    · intro s f w hI y20 hy21 hy22
      obtain ⟨out_8, i_13⟩ := s
      obtain ⟨H7, v9, h11, h12, h14, R10, R6, S⟩ := hI
      refine WP.seq ?_
      refine WP.seq ?_
      refine WP.region ?_
      refine WL.valw (R.mv (v := (int i_13)) h14) ?_
      refine WL.valw (R.mv (v := v2) h12) ?_
      refine WL.valw (R.lenL (α := Str) (xs := r1) (H := H7) R6 rfl Tryd.underlying31) ?_
      refine WL.valw (R.lss rfl rfl) ?_
      refine WL.nil ?_
      rcases condE hy21 with ⟨hc25, hy21⟩ | ⟨hc25, hy21⟩
      · refine WP.condT rfl hc25 ?_
        refine WP.skip ?_
        refine WP.seq ?_
        refine WP.block ?_
        refine WP.seq ?_
        refine WP.region ?_
        refine WL.valw (R.mv (v := v2) h12) ?_
        refine WL.valw (R.mv (v := (int i_13)) h14) ?_
        obtain ⟨x26, hx26, hy21⟩ := bindE hy21
        refine W.idx (α := Str) R6 rfl rfl el31 hx26 ?_
        rintro a27 _ hA28 rfl
        refine WL.valw (R.loadH (v := (str x26)) S rfl hA28 lay9 rfl) ?_
        obtain ⟨r29, hr29, hy21⟩ := bindE hy21
        refine W.call S rfl (ref01_Split_ok S.holds x26 hr29) ?_
        rintro v30 w31 H32 hle33 S R34
        have R10 := Sl.mono R10 hle33
        have R6 := Sl.mono R6 hle33
        have hA28 := At.mono hA28 hle33 (by simp)
        refine WL.valw (R.as (v := v30) rfl) ?_
        refine WL.nil ?_
        refine WP.seq ?_
        refine WP.region ?_
        refine WL.valw (R.as (v := (int 0)) rfl) ?_
        refine WL.nil ?_
        obtain ⟨out_46, hr56, hy21⟩ := bindE hy21
        refine WP.cut (fun f w => ∃ (H45 : Hp) (v47 : Value), f 5 = v47 ∧ f 6 = v2 ∧ f 7 = (int i_13) ∧ Sl (α := Str) H45 v47 out_46 ∧ Sl (α := Str) H45 v2 r1 ∧ St w0 H0 w H45 [.row v47 9 1 out_46.length]) ?_ ?_
        · refine WP.block ?_
          refine WP.loopM (ref01_All_L0 r29) (fun s f w => match s with | (out_36, k_43) => ∃ (H35 : Hp) (v37 : Value), f 5 = v37 ∧ f 6 = v2 ∧ f 7 = (int i_13) ∧ f 8 = v30 ∧ f 9 = (int k_43) ∧ Sl (α := Str) H35 v37 out_36 ∧ Sl (α := Str) H35 v2 r1 ∧ Sl (α := Str) H35 v30 r29 ∧ St w0 H0 w H35 [.row v37 9 1 out_36.length]) (out_8, 0) out_46 hr56 ?_ ?_
          · exact ⟨H32, v9, h11, h12, h14, rfl, rfl, R10, R6, R34, S⟩
          · intro s f w hI y52 hy53 hy54
            obtain ⟨out_36, k_43⟩ := s
            obtain ⟨H35, v37, h39, h40, h41, h42, h44, R38, R6, R34, S⟩ := hI
            refine WP.seq ?_
            refine WP.seq ?_
            refine WP.region ?_
            refine WL.valw (R.mv (v := (int k_43)) h44) ?_
            refine WL.valw (R.mv (v := v30) h42) ?_
            refine WL.valw (R.lenL (α := Str) (xs := r29) (H := H35) R34 rfl Tryd.underlying31) ?_
            refine WL.valw (R.lss rfl rfl) ?_
            refine WL.valw (R.mv (v := (boo (decide (k_43 < (r29.length : Int))))) rfl) ?_
            refine WL.grp 4 [29, 30, 31] 32 (boo ((decide (k_43 < (r29.length : Int))) && (decide ((out_36.length : Int) < 64)))) ?_ ?_
            · rcases boolE (decide (k_43 < (r29.length : Int))) with hb57 | hb57
              · refine WL.gyes rfl rfl hb57 ?_
                refine WL.valw (R.mv (v := v37) h39) ?_
                refine WL.gyes rfl rfl hb57 ?_
                refine WL.valw (R.lenL (α := Str) (xs := out_36) (H := H35) R38 rfl Tryd.underlying31) ?_
                refine WL.gyes rfl rfl hb57 ?_
                refine WL.valw (R.lss rfl rfl) ?_
                refine WL.valw (R.pickT rfl hb57 rfl) ?_
                exact WL.nil ⟨(andT hb57), (by repeat (first | refine agree_upd rfl ?_ | refine agree_upds' rfl ?_ | exact agree_refl)), rfl⟩
              · refine WL.gno rfl rfl hb57 ?_
                refine WL.gno rfl rfl hb57 ?_
                refine WL.gno rfl rfl hb57 ?_
                refine WL.valw (R.pickF rfl hb57 rfl) ?_
                exact WL.nil ⟨(andF hb57), (by repeat (first | refine agree_upd rfl ?_ | refine agree_upds' rfl ?_ | exact agree_refl)), rfl⟩
            · intro us
              refine WL.nil ?_
              rcases condE hy53 with ⟨hc59, hy53⟩ | ⟨hc59, hy53⟩
              · refine WP.condT rfl hc59 ?_
                refine WP.skip ?_
                refine WP.seq ?_
                refine WP.block ?_
                refine WP.region ?_
                refine WL.valw (R.mv (v := v37) h39) ?_
                refine WL.valw (R.mv (v := v30) h42) ?_
                refine WL.valw (R.mv (v := (int k_43)) h44) ?_
                obtain ⟨x60, hx60, hy53⟩ := bindE hy53
                refine W.idx (α := Str) R34 rfl rfl el31 hx60 ?_
                rintro a61 _ hA62 rfl
                refine WL.valw (R.loadH (v := (str x60)) S rfl hA62 lay9 rfl) ?_
                refine W.bslice (α := Str) [(str x60)] ([x60] : List Str) S el31 rfl rfl rfl (by decide) (encS ⟨rfl, rfl⟩ enc0) ?_
                intro u63 w64 H65 hle66 R67 S
                have R38 := Sl.mono R38 hle66
                have R6 := Sl.mono R6 hle66
                have R34 := Sl.mono R34 hle66
                have hA62 := At.mono hA62 hle66 (by simp)
                obtain ⟨l68, hl68, hy53⟩ := bindE hy53
                refine W.app (α := Str) (i := 1) S el31 rfl rfl rfl R38 R67 hl68 ?_
                intro v69 w70 H71 hle72 R73 S
                have R38 := Sl.mono R38 hle72
                have R6 := Sl.mono R6 hle72
                have R34 := Sl.mono R34 hle72
                have hA62 := At.mono hA62 hle72 (by simp)
                have R67 := Sl.mono R67 hle72
                refine WL.valw (R.as (v := v69) rfl) ?_
                refine WL.nil ?_
                refine WP.region ?_
                refine WL.valw (R.mv (v := (int k_43)) h44) ?_
                refine WL.valw (R.add rfl rfl) ?_
                refine WL.valw (R.as (v := (int (wr (k_43 + 1)))) rfl) ?_
                refine WL.nil ?_
                obtain rfl := Option.some.inj hy53
                exact ⟨rfl, ⟨H71, v69, rfl, h40, h41, h42, rfl, R73, R6, R34, (S.drop _ (.cons _ (.cons_cons _ .slnil)))⟩⟩
              · refine WP.condF rfl hc59 ?_
                refine WP.exit ?_
                obtain rfl := Option.some.inj hy53
                obtain rfl := hy54
                exact ⟨H35, v37, h39, h40, h41, R38, R6, S⟩
        · rintro f w ⟨H45, v47, h49, h50, h51, R48, R6, S⟩
          refine WP.region ?_
          refine WL.valw (R.mv (v := (int i_13)) h51) ?_
          refine WL.valw (R.add rfl rfl) ?_
          refine WL.valw (R.as (v := (int (wr (i_13 + 1)))) rfl) ?_
          refine WL.nil ?_
          obtain rfl := Option.some.inj hy21
          exact ⟨rfl, ⟨H45, v47, h49, h50, rfl, R48, R6, S⟩⟩
      · refine WP.condF rfl hc25 ?_
        refine WP.exit ?_
        obtain rfl := Option.some.inj hy21
        obtain rfl := hy22
        exact ⟨H7, v9, h11, R10, S⟩
  · rintro f w ⟨H15, v17, h19, R18, S⟩
    refine WP.seq ?_
    refine WP.region ?_
    refine WL.valw (R.mv (v := v17) h19) ?_
    refine WL.valw (R.as (v := v17) rfl) ?_
    refine WL.nil ?_
    obtain rfl := Option.some.inj h
    refine WP.ret (Out.one rfl S rfl ?_)
    exact R18
set_option maxHeartbeats 4000000 in
theorem ref10_SameStrings_ok {w0 : World} {H0 : Hp} (hw : Holds w0 H0) (p_a : (List Str)) (p_b : (List Str)) {vp_a : Value} {vp_b : Value} (Rp_a : Sl (α := Str) H0 vp_a p_a) (Rp_b : Sl (α := Str) H0 vp_b p_b) {r : Bool} (h : ref10_SameStrings p_a p_b = some r) :
    Con Tryd.prog 40 [vp_a, vp_b] w0 H0 (fun H' v => v = (boo r)) := by
  refine Con.mk (N := 26) Tryd.func40 rfl rfl (by kernel_rfl) rfl ?_
  have S := St.start hw
  refine WP.seq ?_
  refine WP.region ?_
  refine WL.valw (R.as (v := (boo false)) rfl) ?_
  refine WL.nil ?_
  refine WP.seq ?_
  refine WP.seq ?_
  refine WP.region ?_
  refine WL.valw (R.mv (v := vp_a) rfl) ?_
  refine WL.valw (R.lenL (α := Str) (xs := p_a) (H := H0) Rp_a rfl Tryd.underlying31) ?_
  refine WL.valw (R.mv (v := vp_b) rfl) ?_
  refine WL.valw (R.lenL (α := Str) (xs := p_b) (H := H0) Rp_b rfl Tryd.underlying31) ?_
  refine WL.valw (R.neq rfl rfl) ?_
  refine WL.nil ?_
  rcases condE h with ⟨hc1, h⟩ | ⟨hc1, h⟩
  · refine WP.condT rfl hc1 ?_
    refine WP.seq ?_
    refine WP.region ?_
    refine WL.valw (R.as (v := (boo false)) rfl) ?_
    refine WL.nil ?_
    obtain rfl := Option.some.inj h
    refine WP.ret (Out.one rfl S rfl ?_)
    exact rfl
  · refine WP.condF rfl hc1 ?_
    refine WP.skip ?_
    refine WP.seq ?_
    refine WP.seq ?_
    refine WP.region ?_
    refine WL.valw (R.as (v := (int 0)) rfl) ?_
    refine WL.nil ?_
    obtain ⟨r11, hr12, h⟩ := bindE h
    refine WP.cut (fun f w => match r11 with | .inl _ => ∃ (H7 : Hp), St w0 H0 w H7 [] | .inr _ => False) ?_ ?_
    · refine WP.block ?_
      refine WP.loopM (ref10_SameStrings_L0 p_a p_b) (fun s f w => match s with | i_5 => ∃ (H2 : Hp), f 0 = vp_a ∧ f 1 = vp_b ∧ f 5 = (int i_5) ∧ Sl (α := Str) H2 vp_a p_a ∧ Sl (α := Str) H2 vp_b p_b ∧ St w0 H0 w H2 []) 0 r11 hr12 ?_ ?_
      · exact ⟨H0, rfl, rfl, rfl, Rp_a, Rp_b, S⟩
      · intro i_5 f w hI y8 hy9 hy10
        obtain ⟨H2, h3, h4, h6, Rp_a, Rp_b, S⟩ := hI
        refine WP.seq ?_
        refine WP.seq ?_
        refine WP.region ?_
        refine WL.valw (R.mv (v := (int i_5)) h6) ?_
        refine WL.valw (R.mv (v := vp_a) h3) ?_
        refine WL.valw (R.lenL (α := Str) (xs := p_a) (H := H2) Rp_a rfl Tryd.underlying31) ?_
        refine WL.valw (R.lss rfl rfl) ?_
        refine WL.nil ?_
        rcases condE hy9 with ⟨hc13, hy9⟩ | ⟨hc13, hy9⟩
        · refine WP.condT rfl hc13 ?_
          refine WP.skip ?_
          refine WP.seq ?_
          refine WP.block ?_
          refine WP.seq ?_
          refine WP.quiet S (by kernel_rfl) (by kernel_rfl) ?_
          refine WQ.val (fun _ _ => (R.mv (v := vp_a) h3)) ?_
          refine WQ.val (fun _ _ => (R.mv (v := (int i_5)) h6)) ?_
          obtain ⟨x17, hx17, hy9⟩ := bindE hy9
          refine WQ.idx (α := Str) Rp_a rfl rfl el31 hx17 ?_
          rintro a18 _ hA19 rfl
          refine WQ.val (fun w hw => by obtain ⟨_, hq, S⟩ := hw; exact (R.loadH (v := (str x17)) S rfl (At.mono hA19 hq (by simp)) lay9 rfl)) ?_
          refine WQ.val (fun _ _ => (R.mv (v := vp_b) h4)) ?_
          refine WQ.val (fun _ _ => (R.mv (v := (int i_5)) h6)) ?_
          obtain ⟨x20, hx20, hy9⟩ := bindE hy9
          refine WQ.idx (α := Str) Rp_b rfl rfl el31 hx20 ?_
          rintro a21 _ hA22 rfl
          refine WQ.val (fun w hw => by obtain ⟨_, hq, S⟩ := hw; exact (R.loadH (v := (str x20)) S rfl (At.mono hA22 hq (by simp)) lay9 rfl)) ?_
          refine WQ.val (fun _ _ => (R.neqS (a := x17) (b := x20) rfl rfl)) ?_
          refine WQ.nil ?_
          intro w14 H15 hle16 S
          have Rp_a := Sl.mono Rp_a hle16
          have Rp_b := Sl.mono Rp_b hle16
          have hA19 := At.mono hA19 hle16 (by simp)
          have hA22 := At.mono hA22 hle16 (by simp)
          rcases condE hy9 with ⟨hc23, hy9⟩ | ⟨hc23, hy9⟩
          · refine WP.condT rfl hc23 ?_
            refine WP.seq ?_
            refine WP.region ?_
            refine WL.valw (R.as (v := (boo false)) rfl) ?_
            refine WL.nil ?_
            obtain rfl := Option.some.inj hy9
            obtain rfl := hy10
            obtain rfl := Option.some.inj h
            refine WP.ret (Out.one rfl S rfl ?_)
            exact rfl
          · refine WP.condF rfl hc23 ?_
            refine WP.skip ?_
            refine WP.region ?_
            refine WL.valw (R.mv (v := (int i_5)) h6) ?_
            refine WL.valw (R.add rfl rfl) ?_
            refine WL.valw (R.as (v := (int (wr (i_5 + 1)))) rfl) ?_
            refine WL.nil ?_
            obtain rfl := Option.some.inj hy9
            exact ⟨rfl, ⟨H15, h3, h4, rfl, Rp_a, Rp_b, S⟩⟩
        · refine WP.condF rfl hc13 ?_
          refine WP.exit ?_
          obtain rfl := Option.some.inj hy9
          obtain rfl := hy10
          exact ⟨H2, S⟩
    · intro f w hM
      rcases r11 with _ | e
      · obtain ⟨H7, S⟩ := hM
        refine WP.seq ?_
        refine WP.region ?_
        refine WL.valw (R.as (v := (boo true)) rfl) ?_
        refine WL.nil ?_
        obtain rfl := Option.some.inj h
        refine WP.ret (Out.one rfl S rfl ?_)
        exact rfl
      · exact hM.elim
set_option maxHeartbeats 4000000 in
theorem keep_SameStrings_ok {w0 : World} {H0 : Hp} (hw : Holds w0 H0) (p_a : (List Str)) (p_b : (List Str)) {vp_a : Value} {vp_b : Value} (Rp_a : Sl (α := Str) H0 vp_a p_a) (Rp_b : Sl (α := Str) H0 vp_b p_b) {r : Bool} (h : keep_SameStrings p_a p_b = some r) :
    Con Tryd.prog 18 [vp_a, vp_b] w0 H0 (fun H' v => v = (boo r)) := by
  refine Con.mk (N := 8) Tryd.func18 rfl rfl (by kernel_rfl) rfl ?_
  have S := St.start hw
  refine WP.seq ?_
  refine WP.region ?_
  refine WL.valw (R.as (v := (boo false)) rfl) ?_
  refine WL.nil ?_
  refine WP.seq ?_
  refine WP.region ?_
  refine WL.valw (R.mv (v := vp_a) rfl) ?_
  refine WL.valw (R.mv (v := vp_b) rfl) ?_
  obtain ⟨r1, hr1, h⟩ := bindE h
  refine W.call S rfl (ref10_SameStrings_ok S.holds p_a p_b Rp_a Rp_b hr1) ?_
  rintro v2 w3 H4 hle5 S rfl
  have Rp_a := Sl.mono Rp_a hle5
  have Rp_b := Sl.mono Rp_b hle5
  refine WL.valw (R.as (v := (boo r1)) rfl) ?_
  refine WL.nil ?_
  obtain rfl := Option.some.inj h
  refine WP.ret (Out.one rfl S rfl ?_)
  exact rfl
set_option maxHeartbeats 4000000 in
theorem law07_awake_ok {w0 : World} {H0 : Hp} (hw : Holds w0 H0) {r : Bool} (h : law07_awake = some r) :
    Con Tryd.prog 21 [] w0 H0 (fun H' v => v = (boo r)) := by
  refine Con.mk (N := 4) Tryd.func21 rfl rfl (by kernel_rfl) rfl ?_
  have S := St.start hw
  refine WP.seq ?_
  refine WP.region ?_
  refine WL.valw (R.as (v := (boo false)) rfl) ?_
  refine WL.nil ?_
  refine WP.seq ?_
  refine WP.region ?_
  obtain ⟨r1, hr1, h⟩ := bindE h
  refine W.call S rfl (list_Split_ok S.holds [97, 44, 32, 34, 98, 44, 99, 34, 32, 44, 44, 100] hr1) ?_
  rintro v2 w3 H4 hle5 S R6
  refine W.bslice (α := Str) [(str [97]), (str [34, 98, 44, 99, 34]), (str [100])] ([[97], [34, 98, 44, 99, 34], [100]] : List Str) S el31 rfl rfl rfl (by decide) (encS ⟨rfl, rfl⟩ (encS ⟨rfl, rfl⟩ (encS ⟨rfl, rfl⟩ enc0))) ?_
  intro u7 w8 H9 hle10 R11 S
  have R6 := Sl.mono R6 hle10
  obtain ⟨r12, hr12, h⟩ := bindE h
  refine W.call S rfl (keep_SameStrings_ok S.holds r1 ([[97], [34, 98, 44, 99, 34], [100]] : List Str) R6 R11 hr12) ?_
  rintro v13 w14 H15 hle16 S rfl
  have R6 := Sl.mono R6 hle16
  have R11 := Sl.mono R11 hle16
  refine WL.valw (R.as (v := (boo r12)) rfl) ?_
  refine WL.nil ?_
  obtain rfl := Option.some.inj h
  refine WP.ret (Out.one rfl S rfl ?_)
  exact rfl
set_option maxHeartbeats 4000000 in
theorem law07_ListAll_ok {w0 : World} {H0 : Hp} (hw : Holds w0 H0) (p_l : (List GField)) (p_name : Str) {vp_l : Value} (Rp_l : Sl (α := GField) H0 vp_l p_l) {r : Bool} (h : law07_ListAll p_l p_name = some r) :
    Con Tryd.prog 6 [vp_l, (str p_name)] w0 H0 (fun H' v => v = (boo r)) := by
  refine Con.mk (N := 23) Tryd.func6 rfl rfl (by kernel_rfl) rfl ?_
  have S := St.start hw
  refine WP.seq ?_
  refine WP.region ?_
  refine WL.valw (R.as (v := (boo false)) rfl) ?_
  refine WL.nil ?_
  refine WP.seq ?_
  refine WP.seq ?_
  refine WP.region ?_
  refine WL.valw (R.mv (v := vp_l) rfl) ?_
  obtain ⟨r1, hr1, h⟩ := bindE h
  refine W.call S rfl (keep_Fields_ok S.holds p_l Rp_l hr1) ?_
  rintro v2 w3 H4 hle5 S rfl
  have Rp_l := Sl.mono Rp_l hle5
  refine WL.valw (R.not rfl) ?_
  refine WL.valw (R.mv (v := (boo (!r1))) rfl) ?_
  refine WL.grp 4 [9, 10, 11] 12 (boo ((!r1) || (decide (300 < (p_name.length : Int))))) ?_ ?_
  · rcases boolE (!r1) with hb6 | hb6
    · refine WL.gno rfl rfl hb6 ?_
      refine WL.gno rfl rfl hb6 ?_
      refine WL.gno rfl rfl hb6 ?_
      refine WL.valw (R.pickT rfl hb6 rfl) ?_
      exact WL.nil ⟨(orT hb6), (by repeat (first | refine agree_upd rfl ?_ | refine agree_upds' rfl ?_ | exact agree_refl)), rfl⟩
    · refine WL.gyes rfl rfl hb6 ?_
      refine WL.valw (R.mv (v := (str p_name)) rfl) ?_
      refine WL.gyes rfl rfl hb6 ?_
      refine WL.valw (R.lenS (a := p_name) rfl Tryd.underlying9) ?_
      refine WL.gyes rfl rfl hb6 ?_
      refine WL.valw (R.gtr rfl rfl) ?_
      refine WL.valw (R.pickF rfl hb6 rfl) ?_
      exact WL.nil ⟨(orF hb6), (by repeat (first | refine agree_upd rfl ?_ | refine agree_upds' rfl ?_ | exact agree_refl)), rfl⟩
  · intro us
    refine WL.nil ?_
    rcases condE h with ⟨hc8, h⟩ | ⟨hc8, h⟩
    · refine WP.condT rfl hc8 ?_
      refine WP.seq ?_
      refine WP.region ?_
      refine WL.valw (R.as (v := (boo true)) rfl) ?_
      refine WL.nil ?_
      obtain rfl := Option.some.inj h
      refine WP.ret (Out.one rfl S rfl ?_)
      exact rfl
    · refine WP.condF rfl hc8 ?_
      refine WP.skip ?_
      refine WP.seq ?_
      refine WP.region ?_
      refine WL.valw (R.mv (v := vp_l) rfl) ?_
      refine WL.valw (R.mv (v := (str p_name)) rfl) ?_
      obtain ⟨r9, hr9, h⟩ := bindE h
      refine W.call S rfl (list_All_ok S.holds p_l p_name Rp_l hr9) ?_
      rintro v10 w11 H12 hle13 S R14
      have Rp_l := Sl.mono Rp_l hle13
      refine WL.valw (R.mv (v := vp_l) rfl) ?_
      refine WL.valw (R.mv (v := (str p_name)) rfl) ?_
      obtain ⟨r15, hr15, h⟩ := bindE h
      refine W.call S rfl (ref01_All_ok S.holds p_l p_name Rp_l hr15) ?_
      rintro v16 w17 H18 hle19 S R20
      have Rp_l := Sl.mono Rp_l hle19
      have R14 := Sl.mono R14 hle19
      obtain ⟨r21, hr21, h⟩ := bindE h
      refine W.call S rfl (keep_SameStrings_ok S.holds r9 r15 R14 R20 hr21) ?_
      rintro v22 w23 H24 hle25 S rfl
      have Rp_l := Sl.mono Rp_l hle25
      have R14 := Sl.mono R14 hle25
      have R20 := Sl.mono R20 hle25
      refine WL.valw (R.mv (v := (boo r21)) rfl) ?_
      obtain ⟨b33, hg27, h⟩ := bindE h
      refine WL.grpw 2 [21] 22 (boo b33) (fun w => ∃ H' : Hp, H24.le H' ∧ St w0 H0 w H' []) ?_ ?_
      · rcases boolE r21 with hb26 | hb26
        · replace hg27 := condT hg27 hb26
          refine WL.gyes rfl rfl hb26 ?_
          obtain ⟨r28, hr28, hg27⟩ := bindE hg27
          refine W.call S rfl (law07_awake_ok S.holds  hr28) ?_
          rintro v29 w30 H31 hle32 S rfl
          have Rp_l := Sl.mono Rp_l hle32
          have R14 := Sl.mono R14 hle32
          have R20 := Sl.mono R20 hle32
          refine WL.valw (R.pickT rfl hb26 rfl) ?_
          exact WL.nil ⟨(congrArg boo (Option.some.inj hg27)), (by repeat (first | refine agree_upd rfl ?_ | refine agree_upds' rfl ?_ | exact agree_refl)), ⟨H31, hle32, S⟩⟩
        · replace hg27 := condF hg27 hb26
          refine WL.gno rfl rfl hb26 ?_
          refine WL.valw (R.pickF rfl hb26 rfl) ?_
          exact WL.nil ⟨(congrArg boo (Option.some.inj hg27)), (by repeat (first | refine agree_upd rfl ?_ | refine agree_upds' rfl ?_ | exact agree_refl)), ⟨H24, (Hp.le.refl _), S⟩⟩
      · intro us w35 ⟨H34, hle36, S⟩
        have Rp_l := Sl.mono Rp_l hle36
        have R14 := Sl.mono R14 hle36
        have R20 := Sl.mono R20 hle36
        refine WL.valw (R.as (v := (boo b33)) rfl) ?_
        refine WL.nil ?_
        obtain rfl := Option.some.inj h
        refine WP.ret (Out.one rfl S rfl ?_)
        exact rfl
set_option maxHeartbeats 4000000 in
theorem law07_ListLines_ok {w0 : World} {H0 : Hp} (hw : Holds w0 H0) (p_a : Str) (p_b : Str) (p_name : Str) {r : Bool} (h : law07_ListLines p_a p_b p_name = some r) :
    Con Tryd.prog 7 [(str p_a), (str p_b), (str p_name)] w0 H0 (fun H' v => v = (boo r)) := by
  refine Con.mk (N := 58) Tryd.func7 rfl rfl (by kernel_rfl) rfl ?_
  have S := St.start hw
  refine WP.seq ?_
  refine WP.region ?_
  refine WL.valw (R.as (v := (boo false)) rfl) ?_
  refine WL.nil ?_
  refine WP.seq ?_
  refine WP.seq ?_
  refine WP.region ?_
  refine WL.valw (R.mv (v := (str p_a)) rfl) ?_
  refine WL.valw (R.lenS (a := p_a) rfl Tryd.underlying9) ?_
  refine WL.valw (R.gtr rfl rfl) ?_
  refine WL.valw (R.mv (v := (boo (decide (500 < (p_a.length : Int))))) rfl) ?_
  refine WL.grp 4 [13, 14, 15] 16 (boo ((decide (500 < (p_a.length : Int))) || (decide (500 < (p_b.length : Int))))) ?_ ?_
  · rcases boolE (decide (500 < (p_a.length : Int))) with hb1 | hb1
    · refine WL.gno rfl rfl hb1 ?_
      refine WL.gno rfl rfl hb1 ?_
      refine WL.gno rfl rfl hb1 ?_
      refine WL.valw (R.pickT rfl hb1 rfl) ?_
      exact WL.nil ⟨(orT hb1), (by repeat (first | refine agree_upd rfl ?_ | refine agree_upds' rfl ?_ | exact agree_refl)), rfl⟩
    · refine WL.gyes rfl rfl hb1 ?_
      refine WL.valw (R.mv (v := (str p_b)) rfl) ?_
      refine WL.gyes rfl rfl hb1 ?_
      refine WL.valw (R.lenS (a := p_b) rfl Tryd.underlying9) ?_
      refine WL.gyes rfl rfl hb1 ?_
      refine WL.valw (R.gtr rfl rfl) ?_
      refine WL.valw (R.pickF rfl hb1 rfl) ?_
      exact WL.nil ⟨(orF hb1), (by repeat (first | refine agree_upd rfl ?_ | refine agree_upds' rfl ?_ | exact agree_refl)), rfl⟩
  · intro us
    refine WL.valw (R.mv (v := (boo ((decide (500 < (p_a.length : Int))) || (decide (500 < (p_b.length : Int)))))) rfl) ?_
    refine WL.grp 4 [18, 19, 20] 21 (boo (((decide (500 < (p_a.length : Int))) || (decide (500 < (p_b.length : Int)))) || (decide (100 < (p_name.length : Int))))) ?_ ?_
    · rcases boolE ((decide (500 < (p_a.length : Int))) || (decide (500 < (p_b.length : Int)))) with hb3 | hb3
      · refine WL.gno rfl rfl hb3 ?_
        refine WL.gno rfl rfl hb3 ?_
        refine WL.gno rfl rfl hb3 ?_
        refine WL.valw (R.pickT rfl hb3 rfl) ?_
        exact WL.nil ⟨(orT hb3), (by repeat (first | refine agree_upd rfl ?_ | refine agree_upds' rfl ?_ | exact agree_refl)), rfl⟩
      · refine WL.gyes rfl rfl hb3 ?_
        refine WL.valw (R.mv (v := (str p_name)) rfl) ?_
        refine WL.gyes rfl rfl hb3 ?_
        refine WL.valw (R.lenS (a := p_name) rfl Tryd.underlying9) ?_
        refine WL.gyes rfl rfl hb3 ?_
        refine WL.valw (R.gtr rfl rfl) ?_
        refine WL.valw (R.pickF rfl hb3 rfl) ?_
        exact WL.nil ⟨(orF hb3), (by repeat (first | refine agree_upd rfl ?_ | refine agree_upds' rfl ?_ | exact agree_refl)), rfl⟩
    · intro us
      refine WL.valw (R.mv (v := (boo (((decide (500 < (p_a.length : Int))) || (decide (500 < (p_b.length : Int)))) || (decide (100 < (p_name.length : Int)))))) rfl) ?_
      obtain ⟨b20, hg6, h⟩ := bindE h
      refine WL.grpw 10 [23, 24, 25, 26, 27, 28, 29, 30, 31] 32 (boo b20) (fun w => ∃ H' : Hp, H0.le H' ∧ St w0 H0 w H' []) ?_ ?_
      · rcases boolE (((decide (500 < (p_a.length : Int))) || (decide (500 < (p_b.length : Int)))) || (decide (100 < (p_name.length : Int)))) with hb5 | hb5
        · replace hg6 := condT hg6 hb5
          refine WL.gno rfl rfl hb5 ?_
          refine WL.gno rfl rfl hb5 ?_
          refine WL.gno rfl rfl hb5 ?_
          refine WL.gno rfl rfl hb5 ?_
          refine WL.gno rfl rfl hb5 ?_
          refine WL.gno rfl rfl hb5 ?_
          refine WL.gno rfl rfl hb5 ?_
          refine WL.gno rfl rfl hb5 ?_
          refine WL.gno rfl rfl hb5 ?_
          refine WL.valw (R.pickT rfl hb5 rfl) ?_
          exact WL.nil ⟨(congrArg boo (Option.some.inj hg6)), (by repeat (first | refine agree_upd rfl ?_ | refine agree_upds' rfl ?_ | exact agree_refl)), ⟨H0, (Hp.le.refl _), S⟩⟩
        · replace hg6 := condF hg6 hb5
          refine WL.gyes rfl rfl hb5 ?_
          refine WL.valw (R.mv (v := (str p_a)) rfl) ?_
          refine WL.gyes rfl rfl hb5 ?_
          obtain ⟨s7, hs7, hg6⟩ := bindE hg6
          refine WL.valw (R.cat (a := p_a) (b := [44, 120]) rfl rfl hs7) ?_
          refine WL.gyes rfl rfl hb5 ?_
          obtain ⟨r8, hr8, hg6⟩ := bindE hg6
          refine W.call S rfl (ref01_Split_ok S.holds s7 hr8) ?_
          rintro v9 w10 H11 hle12 S R13
          refine WL.gyes rfl rfl hb5 ?_
          refine WL.valw (R.lenL (α := Str) (xs := r8) (H := H11) R13 rfl Tryd.underlying31) ?_
          refine WL.gyes rfl rfl hb5 ?_
          refine WL.valw (R.mv (v := (str p_a)) rfl) ?_
          refine WL.gyes rfl rfl hb5 ?_
          obtain ⟨r14, hr14, hg6⟩ := bindE hg6
          refine W.call S rfl (ref01_Split_ok S.holds p_a hr14) ?_
          rintro v15 w16 H17 hle18 S R19
          have R13 := Sl.mono R13 hle18
          refine WL.gyes rfl rfl hb5 ?_
          refine WL.valw (R.lenL (α := Str) (xs := r14) (H := H17) R19 rfl Tryd.underlying31) ?_
          refine WL.gyes rfl rfl hb5 ?_
          refine WL.valw (R.add rfl rfl) ?_
          refine WL.gyes rfl rfl hb5 ?_
          refine WL.valw (R.neq rfl rfl) ?_
          refine WL.valw (R.pickF rfl hb5 rfl) ?_
          exact WL.nil ⟨(congrArg boo (Option.some.inj hg6)), (by repeat (first | refine agree_upd rfl ?_ | refine agree_upds' rfl ?_ | exact agree_refl)), ⟨H17, (hle12.trans hle18), S⟩⟩
      · intro us w22 ⟨H21, hle23, S⟩
        refine WL.nil ?_
        rcases condE h with ⟨hc24, h⟩ | ⟨hc24, h⟩
        · refine WP.condT rfl hc24 ?_
          refine WP.seq ?_
          refine WP.region ?_
          refine WL.valw (R.as (v := (boo true)) rfl) ?_
          refine WL.nil ?_
          obtain rfl := Option.some.inj h
          refine WP.ret (Out.one rfl S rfl ?_)
          exact rfl
        · refine WP.condF rfl hc24 ?_
          refine WP.skip ?_
          refine WP.seq ?_
          refine WP.region ?_
          refine WL.valw (R.mv (v := (str p_name)) rfl) ?_
          refine WL.valw (R.mv (v := (str p_a)) rfl) ?_
          refine WL.valw (R.build [(0, (str p_name)), (1, (str p_a))] [(str p_name), (str p_a)] bp36 zer36 rfl rfl) ?_
          refine WL.valw (R.mv (v := (str p_b)) rfl) ?_
          refine WL.valw (R.build [(0, (str [111, 116, 104, 101, 114])), (1, (str p_b))] [(str [111, 116, 104, 101, 114]), (str p_b)] bp36 zer36 rfl rfl) ?_
          refine WL.valw (R.mv (v := (str p_name)) rfl) ?_
          obtain ⟨r25, hr25, h⟩ := bindE h
          refine W.call S rfl (ref01_Lower_ok S.holds p_name hr25) ?_
          rintro v26 w27 H28 hle29 S rfl
          refine WL.valw (R.mv (v := (str p_b)) rfl) ?_
          refine WL.valw (R.build [(0, (str r25)), (1, (str p_b))] [(str r25), (str p_b)] bp36 zer36 rfl rfl) ?_
          refine W.bslice (α := GField) [(agg [(str p_name), (str p_a)]), (agg [(str [111, 116, 104, 101, 114]), (str p_b)]), (agg [(str r25), (str p_b)])] ([(⟨p_name, p_a⟩ : GField), (⟨[111, 116, 104, 101, 114], p_b⟩ : GField), (⟨r25, p_b⟩ : GField)] : List GField) S el28 rfl rfl rfl (by decide) (encS ⟨rfl, rfl⟩ (encS ⟨rfl, rfl⟩ (encS ⟨rfl, rfl⟩ enc0))) ?_
          intro u30 w31 H32 hle33 R34 S
          refine WL.valw (R.mv (v := (str p_name)) rfl) ?_
          obtain ⟨r35, hr35, h⟩ := bindE h
          refine W.call S rfl (list_All_ok S.holds ([(⟨p_name, p_a⟩ : GField), (⟨[111, 116, 104, 101, 114], p_b⟩ : GField), (⟨r25, p_b⟩ : GField)] : List GField) p_name R34 hr35) ?_
          rintro v36 w37 H38 hle39 S R40
          have R34 := Sl.mono R34 hle39
          refine WL.valw (R.as (v := v36) rfl) ?_
          refine WL.nil ?_
          refine WP.seq ?_
          refine WP.region ?_
          refine WL.valw (R.mv (v := (str p_a)) rfl) ?_
          obtain ⟨s41, hs41, h⟩ := bindE h
          refine WL.valw (R.cat (a := p_a) (b := [44]) rfl rfl hs41) ?_
          refine WL.valw (R.mv (v := (str p_b)) rfl) ?_
          obtain ⟨s42, hs42, h⟩ := bindE h
          refine WL.valw (R.cat (a := s41) (b := p_b) rfl rfl hs42) ?_
          obtain ⟨r43, hr43, h⟩ := bindE h
          refine W.call S rfl (list_Split_ok S.holds s42 hr43) ?_
          rintro v44 w45 H46 hle47 S R48
          have R34 := Sl.mono R34 hle47
          have R40 := Sl.mono R40 hle47
          refine WL.valw (R.as (v := v44) rfl) ?_
          refine WL.nil ?_
          refine WP.seq ?_
          refine WP.seq ?_
          refine WP.region ?_
          refine WL.valw (R.mv (v := (str p_name)) rfl) ?_
          obtain ⟨r49, hr49, h⟩ := bindE h
          refine W.call S rfl (ref01_Fold_ok S.holds p_name [111, 116, 104, 101, 114] hr49) ?_
          rintro v50 w51 H52 hle53 S rfl
          have R34 := Sl.mono R34 hle53
          have R40 := Sl.mono R40 hle53
          have R48 := Sl.mono R48 hle53
          refine WL.nil ?_
          rcases condE h with ⟨hc54, h⟩ | ⟨hc54, h⟩
          · refine WP.condT rfl hc54 ?_
            refine WP.seq ?_
            refine WP.region ?_
            refine WL.valw (R.as (v := (boo true)) rfl) ?_
            refine WL.nil ?_
            obtain rfl := Option.some.inj h
            refine WP.ret (Out.one rfl S rfl ?_)
            exact rfl
          · refine WP.condF rfl hc54 ?_
            refine WP.skip ?_
            refine WP.seq ?_
            refine WP.region ?_
            refine WL.valw (R.mv (v := v36) rfl) ?_
            refine WL.valw (R.mv (v := v44) rfl) ?_
            obtain ⟨r55, hr55, h⟩ := bindE h
            refine W.call S rfl (keep_SameStrings_ok S.holds r35 r43 R40 R48 hr55) ?_
            rintro v56 w57 H58 hle59 S rfl
            have R34 := Sl.mono R34 hle59
            have R40 := Sl.mono R40 hle59
            have R48 := Sl.mono R48 hle59
            refine WL.valw (R.mv (v := (boo r55)) rfl) ?_
            obtain ⟨b67, hg61, h⟩ := bindE h
            refine WL.grpw 2 [56] 57 (boo b67) (fun w => ∃ H' : Hp, H58.le H' ∧ St w0 H0 w H' [.row u30 36 2 ([(⟨p_name, p_a⟩ : GField), (⟨[111, 116, 104, 101, 114], p_b⟩ : GField), (⟨r25, p_b⟩ : GField)] : List GField).length]) ?_ ?_
            · rcases boolE r55 with hb60 | hb60
              · replace hg61 := condT hg61 hb60
                refine WL.gyes rfl rfl hb60 ?_
                obtain ⟨r62, hr62, hg61⟩ := bindE hg61
                refine W.call S rfl (law07_awake_ok S.holds  hr62) ?_
                rintro v63 w64 H65 hle66 S rfl
                have R34 := Sl.mono R34 hle66
                have R40 := Sl.mono R40 hle66
                have R48 := Sl.mono R48 hle66
                refine WL.valw (R.pickT rfl hb60 rfl) ?_
                exact WL.nil ⟨(congrArg boo (Option.some.inj hg61)), (by repeat (first | refine agree_upd rfl ?_ | refine agree_upds' rfl ?_ | exact agree_refl)), ⟨H65, hle66, S⟩⟩
              · replace hg61 := condF hg61 hb60
                refine WL.gno rfl rfl hb60 ?_
                refine WL.valw (R.pickF rfl hb60 rfl) ?_
                exact WL.nil ⟨(congrArg boo (Option.some.inj hg61)), (by repeat (first | refine agree_upd rfl ?_ | refine agree_upds' rfl ?_ | exact agree_refl)), ⟨H58, (Hp.le.refl _), S⟩⟩
            · intro us w69 ⟨H68, hle70, S⟩
              have R34 := Sl.mono R34 hle70
              have R40 := Sl.mono R40 hle70
              have R48 := Sl.mono R48 hle70
              refine WL.valw (R.as (v := (boo b67)) rfl) ?_
              refine WL.nil ?_
              obtain rfl := Option.some.inj h
              refine WP.ret (Out.one rfl S rfl ?_)
              exact rfl
set_option maxHeartbeats 4000000 in
theorem keep_Strings_ok {w0 : World} {H0 : Hp} (hw : Holds w0 H0) (p_l : (List Str)) {vp_l : Value} (Rp_l : Sl (α := Str) H0 vp_l p_l) {r : Bool} (h : keep_Strings p_l = some r) :
    Con Tryd.prog 26 [vp_l] w0 H0 (fun H' v => v = (boo r)) := by
  refine Con.mk (N := 23) Tryd.func26 rfl rfl (by kernel_rfl) rfl ?_
  have S := St.start hw
  refine WP.seq ?_
  refine WP.region ?_
  refine WL.valw (R.as (v := (boo false)) rfl) ?_
  refine WL.nil ?_
  refine WP.seq ?_
  refine WP.seq ?_
  refine WP.region ?_
  refine WL.valw (R.as (v := (int 0)) rfl) ?_
  refine WL.nil ?_
  obtain ⟨r10, hr11, h⟩ := bindE h
  refine WP.cut (fun f w => match r10 with | .inl _ => ∃ (H5 : Hp), f 0 = vp_l ∧ Sl (α := Str) H5 vp_l p_l ∧ St w0 H0 w H5 [] | .inr _ => False) ?_ ?_
  · refine WP.block ?_
    refine WP.loopM (keep_Strings_L0 p_l) (fun s f w => match s with | i_3 => ∃ (H1 : Hp), f 0 = vp_l ∧ f 3 = (int i_3) ∧ Sl (α := Str) H1 vp_l p_l ∧ St w0 H0 w H1 []) 0 r10 hr11 ?_ ?_
    · exact ⟨H0, rfl, rfl, Rp_l, S⟩
    · intro i_3 f w hI y7 hy8 hy9
      obtain ⟨H1, h2, h4, Rp_l, S⟩ := hI
      refine WP.seq ?_
      refine WP.seq ?_
      refine WP.region ?_
      refine WL.valw (R.mv (v := (int i_3)) h4) ?_
      refine WL.valw (R.mv (v := vp_l) h2) ?_
      refine WL.valw (R.lenL (α := Str) (xs := p_l) (H := H1) Rp_l rfl Tryd.underlying31) ?_
      refine WL.valw (R.lss rfl rfl) ?_
      refine WL.valw (R.mv (v := (boo (decide (i_3 < (p_l.length : Int))))) rfl) ?_
      refine WL.grp 3 [9, 10] 11 (boo ((decide (i_3 < (p_l.length : Int))) && (decide (i_3 < 21)))) ?_ ?_
      · rcases boolE (decide (i_3 < (p_l.length : Int))) with hb12 | hb12
        · refine WL.gyes rfl rfl hb12 ?_
          refine WL.valw (R.mv (v := (int i_3)) h4) ?_
          refine WL.gyes rfl rfl hb12 ?_
          refine WL.valw (R.lss rfl rfl) ?_
          refine WL.valw (R.pickT rfl hb12 rfl) ?_
          exact WL.nil ⟨(andT hb12), (by repeat (first | refine agree_upd rfl ?_ | refine agree_upds' rfl ?_ | exact agree_refl)), rfl⟩
        · refine WL.gno rfl rfl hb12 ?_
          refine WL.gno rfl rfl hb12 ?_
          refine WL.valw (R.pickF rfl hb12 rfl) ?_
          exact WL.nil ⟨(andF hb12), (by repeat (first | refine agree_upd rfl ?_ | refine agree_upds' rfl ?_ | exact agree_refl)), rfl⟩
      · intro us
        refine WL.nil ?_
        rcases condE hy8 with ⟨hc14, hy8⟩ | ⟨hc14, hy8⟩
        · refine WP.condT rfl hc14 ?_
          refine WP.skip ?_
          refine WP.seq ?_
          refine WP.block ?_
          refine WP.seq ?_
          refine WP.region ?_
          refine WL.valw (R.mv (v := vp_l) h2) ?_
          refine WL.valw (R.mv (v := (int i_3)) h4) ?_
          obtain ⟨x15, hx15, hy8⟩ := bindE hy8
          refine W.idx (α := Str) Rp_l rfl rfl el31 hx15 ?_
          rintro a16 _ hA17 rfl
          refine WL.valw (R.loadH (v := (str x15)) S rfl hA17 lay9 rfl) ?_
          refine WL.valw (R.lenS (a := x15) rfl Tryd.underlying9) ?_
          refine WL.valw (R.gtr rfl rfl) ?_
          refine WL.nil ?_
          rcases condE hy8 with ⟨hc18, hy8⟩ | ⟨hc18, hy8⟩
          · refine WP.condT rfl hc18 ?_
            refine WP.seq ?_
            refine WP.region ?_
            refine WL.valw (R.as (v := (boo false)) rfl) ?_
            refine WL.nil ?_
            obtain rfl := Option.some.inj hy8
            obtain rfl := hy9
            obtain rfl := Option.some.inj h
            refine WP.ret (Out.one rfl S rfl ?_)
            exact rfl
          · refine WP.condF rfl hc18 ?_
            refine WP.skip ?_
            refine WP.region ?_
            refine WL.valw (R.mv (v := (int i_3)) h4) ?_
            refine WL.valw (R.add rfl rfl) ?_
            refine WL.valw (R.as (v := (int (wr (i_3 + 1)))) rfl) ?_
            refine WL.nil ?_
            obtain rfl := Option.some.inj hy8
            exact ⟨rfl, ⟨H1, h2, rfl, Rp_l, S⟩⟩
        · refine WP.condF rfl hc14 ?_
          refine WP.exit ?_
          obtain rfl := Option.some.inj hy8
          obtain rfl := hy9
          exact ⟨H1, h2, Rp_l, S⟩
  · intro f w hM
    rcases r10 with _ | e
    · obtain ⟨H5, h6, Rp_l, S⟩ := hM
      refine WP.seq ?_
      refine WP.region ?_
      refine WL.valw (R.mv (v := vp_l) h6) ?_
      refine WL.valw (R.lenL (α := Str) (xs := p_l) (H := H5) Rp_l rfl Tryd.underlying31) ?_
      refine WL.valw (R.leq rfl rfl) ?_
      refine WL.valw (R.as (v := (boo (decide ((p_l.length : Int) ≤ 20)))) rfl) ?_
      refine WL.nil ?_
      obtain rfl := Option.some.inj h
      refine WP.ret (Out.one rfl S rfl ?_)
      exact rfl
    · exact hM.elim
set_option maxHeartbeats 4000000 in
theorem list_Join_ok {w0 : World} {H0 : Hp} (hw : Holds w0 H0) (p_members : (List Str)) {vp_members : Value} (Rp_members : Sl (α := Str) H0 vp_members p_members) {r : Str} (h : list_Join p_members = some r) :
    Con Tryd.prog 27 [vp_members] w0 H0 (fun H' v => v = (str r)) := by
  refine Con.mk (N := 5) Tryd.func27 rfl rfl (by kernel_rfl) rfl ?_
  have S := St.start hw
  refine WP.seq ?_
  refine WP.region ?_
  refine WL.valw (R.as (v := (str [])) rfl) ?_
  refine WL.nil ?_
  refine WP.seq ?_
  refine WP.region ?_
  refine WL.valw (R.mv (v := vp_members) rfl) ?_
  obtain ⟨r1, hr1, h⟩ := bindE h
  refine W.call S rfl (strings_Join_ok S.holds p_members [44, 32] Rp_members hr1) ?_
  rintro v2 w3 H4 hle5 S rfl
  have Rp_members := Sl.mono Rp_members hle5
  refine WL.valw (R.as (v := (str r1)) rfl) ?_
  refine WL.nil ?_
  obtain rfl := Option.some.inj h
  refine WP.ret (Out.one rfl S rfl ?_)
  exact rfl
set_option maxHeartbeats 4000000 in
theorem ref01_Join_ok {w0 : World} {H0 : Hp} (hw : Holds w0 H0) (p_members : (List Str)) {vp_members : Value} (Rp_members : Sl (α := Str) H0 vp_members p_members) {r : Str} (h : ref01_Join p_members = some r) :
    Con Tryd.prog 28 [vp_members] w0 H0 (fun H' v => v = (str r)) := by
  refine Con.mk (N := 22) Tryd.func28 rfl rfl (by kernel_rfl) rfl ?_
  have S := St.start hw
  refine WP.seq ?_
  refine WP.region ?_
  refine WL.valw (R.as (v := (str [])) rfl) ?_
  refine WL.nil ?_
  refine WP.seq ?_
  refine WP.region ?_
  refine WL.valw (R.as (v := (str [])) rfl) ?_
  refine WL.nil ?_
  refine WP.seq ?_
  refine WP.seq ?_
  refine WP.region ?_
  refine WL.valw (R.as (v := (int 0)) rfl) ?_
  refine WL.nil ?_
  obtain ⟨s_8, hr14, h⟩ := bindE h
  refine WP.cut (fun f w => ∃ (H7 : Hp), f 3 = (str s_8) ∧ St w0 H0 w H7 []) ?_ ?_
  · refine WP.block ?_
    refine WP.loopM (ref01_Join_L0 p_members) (fun s f w => match s with | (s_3, i_5) => ∃ (H1 : Hp), f 0 = vp_members ∧ f 3 = (str s_3) ∧ f 4 = (int i_5) ∧ Sl (α := Str) H1 vp_members p_members ∧ St w0 H0 w H1 []) ([], 0) s_8 hr14 ?_ ?_
    · exact ⟨H0, rfl, rfl, rfl, Rp_members, S⟩
    · intro s f w hI y10 hy11 hy12
      obtain ⟨s_3, i_5⟩ := s
      obtain ⟨H1, h2, h4, h6, Rp_members, S⟩ := hI
      refine WP.seq ?_
      refine WP.seq ?_
      refine WP.region ?_
      refine WL.valw (R.mv (v := (int i_5)) h6) ?_
      refine WL.valw (R.mv (v := vp_members) h2) ?_
      refine WL.valw (R.lenL (α := Str) (xs := p_members) (H := H1) Rp_members rfl Tryd.underlying31) ?_
      refine WL.valw (R.lss rfl rfl) ?_
      refine WL.nil ?_
      rcases condE hy11 with ⟨hc15, hy11⟩ | ⟨hc15, hy11⟩
      · refine WP.condT rfl hc15 ?_
        refine WP.skip ?_
        refine WP.seq ?_
        refine WP.block ?_
        refine WP.seq ?_
        refine WP.seq ?_
        refine WP.region ?_
        refine WL.valw (R.mv (v := (int i_5)) h6) ?_
        refine WL.valw (R.gtr rfl rfl) ?_
        refine WL.nil ?_
        obtain ⟨s_18, hj21, hy11⟩ := bindE hy11
        refine WP.cut (fun f w => ∃ (H16 : Hp), f 0 = vp_members ∧ f 3 = (str s_18) ∧ f 4 = (int i_5) ∧ Sl (α := Str) H16 vp_members p_members ∧ St w0 H0 w H16 []) ?_ ?_
        · rcases condE hj21 with ⟨hc23, hj21⟩ | ⟨hc23, hj21⟩
          · refine WP.condT rfl hc23 ?_
            refine WP.region ?_
            refine WL.valw (R.mv (v := (str s_3)) h4) ?_
            obtain ⟨s24, hs24, hj21⟩ := bindE hj21
            refine WL.valw (R.cat (a := s_3) (b := [44, 32]) rfl rfl hs24) ?_
            refine WL.valw (R.as (v := (str s24)) rfl) ?_
            refine WL.nil ?_
            obtain rfl := Option.some.inj hj21
            exact ⟨H1, h2, rfl, h6, Rp_members, S⟩
          · refine WP.condF rfl hc23 ?_
            refine WP.skip ?_
            obtain rfl := Option.some.inj hj21
            exact ⟨H1, h2, h4, h6, Rp_members, S⟩
        · rintro f w ⟨H16, h17, h19, h20, Rp_members, S⟩
          refine WP.region ?_
          refine WL.valw (R.mv (v := (str s_18)) h19) ?_
          refine WL.valw (R.mv (v := vp_members) h17) ?_
          refine WL.valw (R.mv (v := (int i_5)) h20) ?_
          obtain ⟨x25, hx25, hy11⟩ := bindE hy11
          refine W.idx (α := Str) Rp_members rfl rfl el31 hx25 ?_
          rintro a26 _ hA27 rfl
          refine WL.valw (R.loadH (v := (str x25)) S rfl hA27 lay9 rfl) ?_
          obtain ⟨s28, hs28, hy11⟩ := bindE hy11
          refine WL.valw (R.cat (a := s_18) (b := x25) rfl rfl hs28) ?_
          refine WL.valw (R.as (v := (str s28)) rfl) ?_
          refine WL.nil ?_
          refine WP.region ?_
          refine WL.valw (R.mv (v := (int i_5)) h20) ?_
          refine WL.valw (R.add rfl rfl) ?_
          refine WL.valw (R.as (v := (int (wr (i_5 + 1)))) rfl) ?_
          refine WL.nil ?_
          obtain rfl := Option.some.inj hy11
          exact ⟨rfl, ⟨H16, h17, rfl, rfl, Rp_members, S⟩⟩
      · refine WP.condF rfl hc15 ?_
        refine WP.exit ?_
        obtain rfl := Option.some.inj hy11
        obtain rfl := hy12
        exact ⟨H1, h4, S⟩
  · rintro f w ⟨H7, h9, S⟩
    refine WP.seq ?_
    refine WP.region ?_
    refine WL.valw (R.mv (v := (str s_8)) h9) ?_
    refine WL.valw (R.as (v := (str s_8)) rfl) ?_
    refine WL.nil ?_
    obtain rfl := Option.some.inj h
    refine WP.ret (Out.one rfl S rfl ?_)
    exact rfl
set_option maxHeartbeats 4000000 in
theorem law07_ListSplits_ok {w0 : World} {H0 : Hp} (hw : Holds w0 H0) (p_s : Str) (p_l : (List Str)) {vp_l : Value} (Rp_l : Sl (α := Str) H0 vp_l p_l) {r : Bool} (h : law07_ListSplits p_s p_l = some r) :
    Con Tryd.prog 8 [(str p_s), vp_l] w0 H0 (fun H' v => v = (boo r)) := by
  refine Con.mk (N := 28) Tryd.func8 rfl rfl (by kernel_rfl) rfl ?_
  have S := St.start hw
  refine WP.seq ?_
  refine WP.region ?_
  refine WL.valw (R.as (v := (boo false)) rfl) ?_
  refine WL.nil ?_
  refine WP.seq ?_
  refine WP.seq ?_
  refine WP.region ?_
  refine WL.valw (R.mv (v := (str p_s)) rfl) ?_
  refine WL.valw (R.lenS (a := p_s) rfl Tryd.underlying9) ?_
  refine WL.valw (R.gtr rfl rfl) ?_
  refine WL.valw (R.mv (v := (boo (decide (3000 < (p_s.length : Int))))) rfl) ?_
  obtain ⟨b8, hg2, h⟩ := bindE h
  refine WL.grpw 4 [9, 10, 11] 12 (boo b8) (fun w => ∃ H' : Hp, H0.le H' ∧ St w0 H0 w H' []) ?_ ?_
  · rcases boolE (decide (3000 < (p_s.length : Int))) with hb1 | hb1
    · replace hg2 := condT hg2 hb1
      refine WL.gno rfl rfl hb1 ?_
      refine WL.gno rfl rfl hb1 ?_
      refine WL.gno rfl rfl hb1 ?_
      refine WL.valw (R.pickT rfl hb1 rfl) ?_
      exact WL.nil ⟨(congrArg boo (Option.some.inj hg2)), (by repeat (first | refine agree_upd rfl ?_ | refine agree_upds' rfl ?_ | exact agree_refl)), ⟨H0, (Hp.le.refl _), S⟩⟩
    · replace hg2 := condF hg2 hb1
      refine WL.gyes rfl rfl hb1 ?_
      refine WL.valw (R.mv (v := vp_l) rfl) ?_
      refine WL.gyes rfl rfl hb1 ?_
      obtain ⟨r3, hr3, hg2⟩ := bindE hg2
      refine W.call S rfl (keep_Strings_ok S.holds p_l Rp_l hr3) ?_
      rintro v4 w5 H6 hle7 S rfl
      have Rp_l := Sl.mono Rp_l hle7
      refine WL.gyes rfl rfl hb1 ?_
      refine WL.valw (R.not rfl) ?_
      refine WL.valw (R.pickF rfl hb1 rfl) ?_
      exact WL.nil ⟨(congrArg boo (Option.some.inj hg2)), (by repeat (first | refine agree_upd rfl ?_ | refine agree_upds' rfl ?_ | exact agree_refl)), ⟨H6, hle7, S⟩⟩
  · intro us w10 ⟨H9, hle11, S⟩
    have Rp_l := Sl.mono Rp_l hle11
    refine WL.nil ?_
    rcases condE h with ⟨hc12, h⟩ | ⟨hc12, h⟩
    · refine WP.condT rfl hc12 ?_
      refine WP.seq ?_
      refine WP.region ?_
      refine WL.valw (R.as (v := (boo true)) rfl) ?_
      refine WL.nil ?_
      obtain rfl := Option.some.inj h
      refine WP.ret (Out.one rfl S rfl ?_)
      exact rfl
    · refine WP.condF rfl hc12 ?_
      refine WP.skip ?_
      refine WP.seq ?_
      refine WP.region ?_
      refine WL.valw (R.mv (v := (str p_s)) rfl) ?_
      obtain ⟨r13, hr13, h⟩ := bindE h
      refine W.call S rfl (list_Split_ok S.holds p_s hr13) ?_
      rintro v14 w15 H16 hle17 S R18
      have Rp_l := Sl.mono Rp_l hle17
      refine WL.valw (R.mv (v := (str p_s)) rfl) ?_
      obtain ⟨r19, hr19, h⟩ := bindE h
      refine W.call S rfl (ref01_Split_ok S.holds p_s hr19) ?_
      rintro v20 w21 H22 hle23 S R24
      have Rp_l := Sl.mono Rp_l hle23
      have R18 := Sl.mono R18 hle23
      obtain ⟨r25, hr25, h⟩ := bindE h
      refine W.call S rfl (keep_SameStrings_ok S.holds r13 r19 R18 R24 hr25) ?_
      rintro v26 w27 H28 hle29 S rfl
      have Rp_l := Sl.mono Rp_l hle29
      have R18 := Sl.mono R18 hle29
      have R24 := Sl.mono R24 hle29
      refine WL.valw (R.mv (v := (boo r25)) rfl) ?_
      obtain ⟨b42, hg31, h⟩ := bindE h
      refine WL.grpw 6 [19, 20, 21, 22, 23] 24 (boo b42) (fun w => ∃ H' : Hp, H28.le H' ∧ St w0 H0 w H' []) ?_ ?_
      · rcases boolE r25 with hb30 | hb30
        · replace hg31 := condT hg31 hb30
          refine WL.gyes rfl rfl hb30 ?_
          refine WL.valw (R.mv (v := vp_l) rfl) ?_
          refine WL.gyes rfl rfl hb30 ?_
          obtain ⟨r32, hr32, hg31⟩ := bindE hg31
          refine W.call S rfl (list_Join_ok S.holds p_l Rp_l hr32) ?_
          rintro v33 w34 H35 hle36 S rfl
          have Rp_l := Sl.mono Rp_l hle36
          have R18 := Sl.mono R18 hle36
          have R24 := Sl.mono R24 hle36
          refine WL.gyes rfl rfl hb30 ?_
          refine WL.valw (R.mv (v := vp_l) rfl) ?_
          refine WL.gyes rfl rfl hb30 ?_
          obtain ⟨r37, hr37, hg31⟩ := bindE hg31
          refine W.call S rfl (ref01_Join_ok S.holds p_l Rp_l hr37) ?_
          rintro v38 w39 H40 hle41 S rfl
          have Rp_l := Sl.mono Rp_l hle41
          have R18 := Sl.mono R18 hle41
          have R24 := Sl.mono R24 hle41
          refine WL.gyes rfl rfl hb30 ?_
          refine WL.valw (R.eqlS (a := r32) (b := r37) rfl rfl) ?_
          refine WL.valw (R.pickT rfl hb30 rfl) ?_
          exact WL.nil ⟨(congrArg boo (Option.some.inj hg31)), (by repeat (first | refine agree_upd rfl ?_ | refine agree_upds' rfl ?_ | exact agree_refl)), ⟨H40, (hle36.trans hle41), S⟩⟩
        · replace hg31 := condF hg31 hb30
          refine WL.gno rfl rfl hb30 ?_
          refine WL.gno rfl rfl hb30 ?_
          refine WL.gno rfl rfl hb30 ?_
          refine WL.gno rfl rfl hb30 ?_
          refine WL.gno rfl rfl hb30 ?_
          refine WL.valw (R.pickF rfl hb30 rfl) ?_
          exact WL.nil ⟨(congrArg boo (Option.some.inj hg31)), (by repeat (first | refine agree_upd rfl ?_ | refine agree_upds' rfl ?_ | exact agree_refl)), ⟨H28, (Hp.le.refl _), S⟩⟩
      · intro us w44 ⟨H43, hle45, S⟩
        have Rp_l := Sl.mono Rp_l hle45
        have R18 := Sl.mono R18 hle45
        have R24 := Sl.mono R24 hle45
        refine WL.valw (R.mv (v := (boo b42)) rfl) ?_
        obtain ⟨b53, hg47, h⟩ := bindE h
        refine WL.grpw 2 [26] 27 (boo b53) (fun w => ∃ H' : Hp, H43.le H' ∧ St w0 H0 w H' []) ?_ ?_
        · rcases boolE b42 with hb46 | hb46
          · replace hg47 := condT hg47 hb46
            refine WL.gyes rfl rfl hb46 ?_
            obtain ⟨r48, hr48, hg47⟩ := bindE hg47
            refine W.call S rfl (law07_awake_ok S.holds  hr48) ?_
            rintro v49 w50 H51 hle52 S rfl
            have Rp_l := Sl.mono Rp_l hle52
            have R18 := Sl.mono R18 hle52
            have R24 := Sl.mono R24 hle52
            refine WL.valw (R.pickT rfl hb46 rfl) ?_
            exact WL.nil ⟨(congrArg boo (Option.some.inj hg47)), (by repeat (first | refine agree_upd rfl ?_ | refine agree_upds' rfl ?_ | exact agree_refl)), ⟨H51, hle52, S⟩⟩
          · replace hg47 := condF hg47 hb46
            refine WL.gno rfl rfl hb46 ?_
            refine WL.valw (R.pickF rfl hb46 rfl) ?_
            exact WL.nil ⟨(congrArg boo (Option.some.inj hg47)), (by repeat (first | refine agree_upd rfl ?_ | refine agree_upds' rfl ?_ | exact agree_refl)), ⟨H43, (Hp.le.refl _), S⟩⟩
        · intro us w55 ⟨H54, hle56, S⟩
          have Rp_l := Sl.mono Rp_l hle56
          have R18 := Sl.mono R18 hle56
          have R24 := Sl.mono R24 hle56
          refine WL.valw (R.as (v := (boo b53)) rfl) ?_
          refine WL.nil ?_
          obtain rfl := Option.some.inj h
          refine WP.ret (Out.one rfl S rfl ?_)
          exact rfl
set_option maxHeartbeats 4000000 in
theorem law07_ListBack_ok {w0 : World} {H0 : Hp} (hw : Holds w0 H0) (p_s : Str) {r : Bool} (h : law07_ListBack p_s = some r) :
    Con Tryd.prog 9 [(str p_s)] w0 H0 (fun H' v => v = (boo r)) := by
  refine Con.mk (N := 35) Tryd.func9 rfl rfl (by kernel_rfl) rfl ?_
  have S := St.start hw
  refine WP.seq ?_
  refine WP.region ?_
  refine WL.valw (R.as (v := (boo false)) rfl) ?_
  refine WL.nil ?_
  refine WP.seq ?_
  refine WP.seq ?_
  refine WP.region ?_
  refine WL.valw (R.mv (v := (str p_s)) rfl) ?_
  refine WL.valw (R.lenS (a := p_s) rfl Tryd.underlying9) ?_
  refine WL.valw (R.gtr rfl rfl) ?_
  refine WL.nil ?_
  rcases condE h with ⟨hc1, h⟩ | ⟨hc1, h⟩
  · refine WP.condT rfl hc1 ?_
    refine WP.seq ?_
    refine WP.region ?_
    refine WL.valw (R.as (v := (boo true)) rfl) ?_
    refine WL.nil ?_
    obtain rfl := Option.some.inj h
    refine WP.ret (Out.one rfl S rfl ?_)
    exact rfl
  · refine WP.condF rfl hc1 ?_
    refine WP.skip ?_
    refine WP.seq ?_
    refine WP.region ?_
    refine WL.valw (R.mv (v := (str p_s)) rfl) ?_
    obtain ⟨r2, hr2, h⟩ := bindE h
    refine W.call S rfl (ref01_Split_ok S.holds p_s hr2) ?_
    rintro v3 w4 H5 hle6 S R7
    refine WL.valw (R.as (v := v3) rfl) ?_
    refine WL.nil ?_
    refine WP.seq ?_
    refine WP.seq ?_
    refine WP.region ?_
    refine WL.valw (R.as (v := (int 0)) rfl) ?_
    refine WL.nil ?_
    obtain ⟨r19, hr20, h⟩ := bindE h
    refine WP.cut (fun f w => match r19 with | .inl _ => ∃ (H13 : Hp), f 0 = (str p_s) ∧ f 3 = v3 ∧ Sl (α := Str) H13 v3 r2 ∧ St w0 H0 w H13 [] | .inr _ => False) ?_ ?_
    · refine WP.block ?_
      refine WP.loopM (law07_ListBack_L0 r2) (fun s f w => match s with | i_11 => ∃ (H8 : Hp), f 0 = (str p_s) ∧ f 3 = v3 ∧ f 4 = (int i_11) ∧ Sl (α := Str) H8 v3 r2 ∧ St w0 H0 w H8 []) 0 r19 hr20 ?_ ?_
      · exact ⟨H5, rfl, rfl, rfl, R7, S⟩
      · intro i_11 f w hI y16 hy17 hy18
        obtain ⟨H8, h9, h10, h12, R7, S⟩ := hI
        refine WP.seq ?_
        refine WP.seq ?_
        refine WP.region ?_
        refine WL.valw (R.mv (v := (int i_11)) h12) ?_
        refine WL.valw (R.mv (v := v3) h10) ?_
        refine WL.valw (R.lenL (α := Str) (xs := r2) (H := H8) R7 rfl Tryd.underlying31) ?_
        refine WL.valw (R.lss rfl rfl) ?_
        refine WL.nil ?_
        rcases condE hy17 with ⟨hc21, hy17⟩ | ⟨hc21, hy17⟩
        · refine WP.condT rfl hc21 ?_
          refine WP.skip ?_
          refine WP.seq ?_
          refine WP.block ?_
          refine WP.seq ?_
          refine WP.region ?_
          refine WL.valw (R.mv (v := v3) h10) ?_
          refine WL.valw (R.mv (v := (int i_11)) h12) ?_
          obtain ⟨x22, hx22, hy17⟩ := bindE hy17
          refine W.idx (α := Str) R7 rfl rfl el31 hx22 ?_
          rintro a23 _ hA24 rfl
          refine WL.valw (R.loadH (v := (str x22)) S rfl hA24 lay9 rfl) ?_
          obtain ⟨s25, hs25, hy17⟩ := bindE hy17
          refine WL.valw (R.cat (a := x22) (b := [44, 120]) rfl rfl hs25) ?_
          obtain ⟨r26, hr26, hy17⟩ := bindE hy17
          refine W.call S rfl (ref01_Split_ok S.holds s25 hr26) ?_
          rintro v27 w28 H29 hle30 S R31
          have R7 := Sl.mono R7 hle30
          have hA24 := At.mono hA24 hle30 (by simp)
          refine WL.valw (R.as (v := v27) rfl) ?_
          refine WL.nil ?_
          refine WP.seq ?_
          refine WP.region ?_
          refine WL.valw (R.mv (v := v27) rfl) ?_
          refine WL.valw (R.lenL (α := Str) (xs := r26) (H := H29) R31 rfl Tryd.underlying31) ?_
          refine WL.valw (R.neq rfl rfl) ?_
          refine WL.nil ?_
          rcases condE hy17 with ⟨hc32, hy17⟩ | ⟨hc32, hy17⟩
          · refine WP.condT rfl hc32 ?_
            refine WP.seq ?_
            refine WP.region ?_
            refine WL.valw (R.as (v := (boo true)) rfl) ?_
            refine WL.nil ?_
            obtain rfl := Option.some.inj hy17
            obtain rfl := hy18
            obtain rfl := Option.some.inj h
            refine WP.ret (Out.one rfl S rfl ?_)
            exact rfl
          · refine WP.condF rfl hc32 ?_
            refine WP.skip ?_
            refine WP.region ?_
            refine WL.valw (R.mv (v := (int i_11)) h12) ?_
            refine WL.valw (R.add rfl rfl) ?_
            refine WL.valw (R.as (v := (int (wr (i_11 + 1)))) rfl) ?_
            refine WL.nil ?_
            obtain rfl := Option.some.inj hy17
            exact ⟨rfl, ⟨H29, h9, h10, rfl, R7, S⟩⟩
        · refine WP.condF rfl hc21 ?_
          refine WP.exit ?_
          obtain rfl := Option.some.inj hy17
          obtain rfl := hy18
          exact ⟨H8, h9, h10, R7, S⟩
    · intro f w hM
      rcases r19 with _ | e
      · obtain ⟨H13, h14, h15, R7, S⟩ := hM
        refine WP.seq ?_
        refine WP.region ?_
        refine WL.valw (R.mv (v := (str p_s)) h14) ?_
        obtain ⟨r33, hr33, h⟩ := bindE h
        refine W.call S rfl (list_Split_ok S.holds p_s hr33) ?_
        rintro v34 w35 H36 hle37 S R38
        have R7 := Sl.mono R7 hle37
        obtain ⟨r39, hr39, h⟩ := bindE h
        refine W.call S rfl (list_Join_ok S.holds r33 R38 hr39) ?_
        rintro v40 w41 H42 hle43 S rfl
        have R7 := Sl.mono R7 hle43
        have R38 := Sl.mono R38 hle43
        obtain ⟨r44, hr44, h⟩ := bindE h
        refine W.call S rfl (list_Split_ok S.holds r39 hr44) ?_
        rintro v45 w46 H47 hle48 S R49
        have R7 := Sl.mono R7 hle48
        have R38 := Sl.mono R38 hle48
        refine WL.valw (R.mv (v := v3) h15) ?_
        obtain ⟨r50, hr50, h⟩ := bindE h
        refine W.call S rfl (keep_SameStrings_ok S.holds r44 r2 R49 R7 hr50) ?_
        rintro v51 w52 H53 hle54 S rfl
        have R7 := Sl.mono R7 hle54
        have R38 := Sl.mono R38 hle54
        have R49 := Sl.mono R49 hle54
        refine WL.valw (R.mv (v := (boo r50)) rfl) ?_
        obtain ⟨b62, hg56, h⟩ := bindE h
        refine WL.grpw 2 [33] 34 (boo b62) (fun w => ∃ H' : Hp, H53.le H' ∧ St w0 H0 w H' []) ?_ ?_
        · rcases boolE r50 with hb55 | hb55
          · replace hg56 := condT hg56 hb55
            refine WL.gyes rfl rfl hb55 ?_
            obtain ⟨r57, hr57, hg56⟩ := bindE hg56
            refine W.call S rfl (law07_awake_ok S.holds  hr57) ?_
            rintro v58 w59 H60 hle61 S rfl
            have R7 := Sl.mono R7 hle61
            have R38 := Sl.mono R38 hle61
            have R49 := Sl.mono R49 hle61
            refine WL.valw (R.pickT rfl hb55 rfl) ?_
            exact WL.nil ⟨(congrArg boo (Option.some.inj hg56)), (by repeat (first | refine agree_upd rfl ?_ | refine agree_upds' rfl ?_ | exact agree_refl)), ⟨H60, hle61, S⟩⟩
          · replace hg56 := condF hg56 hb55
            refine WL.gno rfl rfl hb55 ?_
            refine WL.valw (R.pickF rfl hb55 rfl) ?_
            exact WL.nil ⟨(congrArg boo (Option.some.inj hg56)), (by repeat (first | refine agree_upd rfl ?_ | refine agree_upds' rfl ?_ | exact agree_refl)), ⟨H53, (Hp.le.refl _), S⟩⟩
        · intro us w64 ⟨H63, hle65, S⟩
          have R7 := Sl.mono R7 hle65
          have R38 := Sl.mono R38 hle65
          have R49 := Sl.mono R49 hle65
          refine WL.valw (R.as (v := (boo b62)) rfl) ?_
          refine WL.nil ?_
          obtain rfl := Option.some.inj h
          refine WP.ret (Out.one rfl S rfl ?_)
          exact rfl
      · exact hM.elim
set_option maxHeartbeats 4000000 in
theorem ref19_tagText_ok {w0 : World} {H0 : Hp} (hw : Holds w0 H0) (p_s : Str) {r : Bool} (h : ref19_tagText p_s = some r) :
    Con Tryd.prog 48 [(str p_s)] w0 H0 (fun H' v => v = (boo r)) := by
  refine Con.mk (N := 26) Tryd.func48 rfl rfl (by kernel_rfl) rfl ?_
  have S := St.start hw
  refine WP.seq ?_
  refine WP.region ?_
  refine WL.valw (R.as (v := (boo false)) rfl) ?_
  refine WL.nil ?_
  refine WP.seq ?_
  refine WP.seq ?_
  refine WP.region ?_
  refine WL.valw (R.as (v := (int 0)) rfl) ?_
  refine WL.nil ?_
  obtain ⟨r9, hr10, h⟩ := bindE h
  refine WP.cut (fun f w => match r9 with | .inl _ => ∃ (H5 : Hp), St w0 H0 w H5 [] | .inr _ => False) ?_ ?_
  · refine WP.block ?_
    refine WP.loopM (ref19_tagText_L0 p_s) (fun s f w => match s with | i_3 => ∃ (H1 : Hp), f 0 = (str p_s) ∧ f 3 = (int i_3) ∧ St w0 H0 w H1 []) 0 r9 hr10 ?_ ?_
    · exact ⟨H0, rfl, rfl, S⟩
    · intro i_3 f w hI y6 hy7 hy8
      obtain ⟨H1, h2, h4, S⟩ := hI
      refine WP.seq ?_
      refine WP.seq ?_
      refine WP.region ?_
      refine WL.valw (R.mv (v := (int i_3)) h4) ?_
      refine WL.valw (R.mv (v := (str p_s)) h2) ?_
      refine WL.valw (R.lenS (a := p_s) rfl Tryd.underlying9) ?_
      refine WL.valw (R.lss rfl rfl) ?_
      refine WL.nil ?_
      rcases condE hy7 with ⟨hc11, hy7⟩ | ⟨hc11, hy7⟩
      · refine WP.condT rfl hc11 ?_
        refine WP.skip ?_
        refine WP.seq ?_
        refine WP.block ?_
        refine WP.seq ?_
        refine WP.region ?_
        refine WL.valw (R.mv (v := (str p_s)) h2) ?_
        refine WL.valw (R.mv (v := (int i_3)) h4) ?_
        obtain ⟨c12, hc12, hy7⟩ := bindE hy7
        refine WL.valw (R.idxS rfl rfl Tryd.underlying9 hc12) ?_
        refine WL.valw (R.lss8 (a := c12) (b := 33) rfl rfl) ?_
        refine WL.valw (R.mv (v := (boo (decide (c12 < 33)))) rfl) ?_
        obtain ⟨b16, hg14, hy7⟩ := bindE hy7
        refine WL.grp 5 [15, 16, 17, 18] 19 (boo b16) ?_ ?_
        · rcases boolE (decide (c12 < 33)) with hb13 | hb13
          · replace hg14 := condT hg14 hb13
            refine WL.gno rfl rfl hb13 ?_
            refine WL.gno rfl rfl hb13 ?_
            refine WL.gno rfl rfl hb13 ?_
            refine WL.gno rfl rfl hb13 ?_
            refine WL.valw (R.pickT rfl hb13 rfl) ?_
            exact WL.nil ⟨(congrArg boo (Option.some.inj hg14)), (by repeat (first | refine agree_upd rfl ?_ | refine agree_upds' rfl ?_ | exact agree_refl)), rfl⟩
          · replace hg14 := condF hg14 hb13
            refine WL.gyes rfl rfl hb13 ?_
            refine WL.valw (R.mv (v := (str p_s)) h2) ?_
            refine WL.gyes rfl rfl hb13 ?_
            refine WL.valw (R.mv (v := (int i_3)) h4) ?_
            refine WL.gyes rfl rfl hb13 ?_
            obtain ⟨c15, hc15, hg14⟩ := bindE hg14
            refine WL.valw (R.idxS rfl rfl Tryd.underlying9 hc15) ?_
            refine WL.gyes rfl rfl hb13 ?_
            refine WL.valw (R.eql8 (a := c15) (b := 34) rfl rfl) ?_
            refine WL.valw (R.pickF rfl hb13 rfl) ?_
            exact WL.nil ⟨(congrArg boo (Option.some.inj hg14)), (by repeat (first | refine agree_upd rfl ?_ | refine agree_upds' rfl ?_ | exact agree_refl)), rfl⟩
        · intro us
          refine WL.valw (R.mv (v := (boo b16)) rfl) ?_
          obtain ⟨b20, hg18, hy7⟩ := bindE hy7
          refine WL.grp 5 [21, 22, 23, 24] 25 (boo b20) ?_ ?_
          · rcases boolE b16 with hb17 | hb17
            · replace hg18 := condT hg18 hb17
              refine WL.gno rfl rfl hb17 ?_
              refine WL.gno rfl rfl hb17 ?_
              refine WL.gno rfl rfl hb17 ?_
              refine WL.gno rfl rfl hb17 ?_
              refine WL.valw (R.pickT rfl hb17 rfl) ?_
              exact WL.nil ⟨(congrArg boo (Option.some.inj hg18)), (by repeat (first | refine agree_upd rfl ?_ | refine agree_upds' rfl ?_ | exact agree_refl)), rfl⟩
            · replace hg18 := condF hg18 hb17
              refine WL.gyes rfl rfl hb17 ?_
              refine WL.valw (R.mv (v := (str p_s)) h2) ?_
              refine WL.gyes rfl rfl hb17 ?_
              refine WL.valw (R.mv (v := (int i_3)) h4) ?_
              refine WL.gyes rfl rfl hb17 ?_
              obtain ⟨c19, hc19, hg18⟩ := bindE hg18
              refine WL.valw (R.idxS rfl rfl Tryd.underlying9 hc19) ?_
              refine WL.gyes rfl rfl hb17 ?_
              refine WL.valw (R.eql8 (a := c19) (b := 127) rfl rfl) ?_
              refine WL.valw (R.pickF rfl hb17 rfl) ?_
              exact WL.nil ⟨(congrArg boo (Option.some.inj hg18)), (by repeat (first | refine agree_upd rfl ?_ | refine agree_upds' rfl ?_ | exact agree_refl)), rfl⟩
          · intro us
            refine WL.nil ?_
            rcases condE hy7 with ⟨hc21, hy7⟩ | ⟨hc21, hy7⟩
            · refine WP.condT rfl hc21 ?_
              refine WP.seq ?_
              refine WP.region ?_
              refine WL.valw (R.as (v := (boo false)) rfl) ?_
              refine WL.nil ?_
              obtain rfl := Option.some.inj hy7
              obtain rfl := hy8
              obtain rfl := Option.some.inj h
              refine WP.ret (Out.one rfl S rfl ?_)
              exact rfl
            · refine WP.condF rfl hc21 ?_
              refine WP.skip ?_
              refine WP.region ?_
              refine WL.valw (R.mv (v := (int i_3)) h4) ?_
              refine WL.valw (R.add rfl rfl) ?_
              refine WL.valw (R.as (v := (int (wr (i_3 + 1)))) rfl) ?_
              refine WL.nil ?_
              obtain rfl := Option.some.inj hy7
              exact ⟨rfl, ⟨H1, h2, rfl, S⟩⟩
      · refine WP.condF rfl hc11 ?_
        refine WP.exit ?_
        obtain rfl := Option.some.inj hy7
        obtain rfl := hy8
        exact ⟨H1, S⟩
  · intro f w hM
    rcases r9 with _ | e
    · obtain ⟨H5, S⟩ := hM
      refine WP.seq ?_
      refine WP.region ?_
      refine WL.valw (R.as (v := (boo true)) rfl) ?_
      refine WL.nil ?_
      obtain rfl := Option.some.inj h
      refine WP.ret (Out.one rfl S rfl ?_)
      exact rfl
    · exact hM.elim
set_option maxHeartbeats 4000000 in
theorem ref19_FormatETag_ok {w0 : World} {H0 : Hp} (hw : Holds w0 H0) (p_e : GETag) {r : Str} (h : ref19_FormatETag p_e = some r) :
    Con Tryd.prog 29 [(agg [(boo p_e.fWeak), (str p_e.fTag)])] w0 H0 (fun H' v => v = (str r)) := by
  refine Con.mk (N := 17) Tryd.func29 rfl rfl (by kernel_rfl) rfl ?_
  have S := St.start hw
  refine WP.seq ?_
  refine WP.region ?_
  refine W.box [(boo p_e.fWeak), (str p_e.fTag)] S rfl rfl ?_
  intro b1 w2 S
  refine WL.valw (R.as (v := (str [])) rfl) ?_
  refine WL.nil ?_
  refine WP.seq ?_
  refine WP.seq ?_
  refine WP.region ?_
  refine WL.valw (R.fieldB rfl fld45_1) ?_
  refine WL.valw (R.loadB (i := 0) (v := (str p_e.fTag)) S rfl rfl lay9 rfl) ?_
  obtain ⟨r3, hr3, h⟩ := bindE h
  refine W.call S rfl (ref19_tagText_ok S.holds p_e.fTag hr3) ?_
  rintro v4 w5 H6 hle7 S rfl
  refine WL.valw (R.not rfl) ?_
  refine WL.nil ?_
  rcases condE h with ⟨hc8, h⟩ | ⟨hc8, h⟩
  · refine WP.condT rfl hc8 ?_
    refine WP.seq ?_
    refine WP.region ?_
    refine WL.valw (R.as (v := (str [])) rfl) ?_
    refine WL.nil ?_
    obtain rfl := Option.some.inj h
    refine WP.ret (Out.one rfl S rfl ?_)
    exact rfl
  · refine WP.condF rfl hc8 ?_
    refine WP.skip ?_
    refine WP.seq ?_
    refine WP.seq ?_
    refine WP.region ?_
    refine WL.valw (R.fieldB rfl fld45_0) ?_
    refine WL.valw (R.loadB (i := 0) (v := (boo p_e.fWeak)) S rfl rfl lay4 rfl) ?_
    refine WL.nil ?_
    rcases condE h with ⟨hc9, h⟩ | ⟨hc9, h⟩
    · refine WP.condT rfl hc9 ?_
      refine WP.seq ?_
      refine WP.region ?_
      refine WL.valw (R.fieldB rfl fld45_1) ?_
      refine WL.valw (R.loadB (i := 0) (v := (str p_e.fTag)) S rfl rfl lay9 rfl) ?_
      obtain ⟨s10, hs10, h⟩ := bindE h
      refine WL.valw (R.cat (a := [87, 47, 34]) (b := p_e.fTag) rfl rfl hs10) ?_
      obtain ⟨s11, hs11, h⟩ := bindE h
      refine WL.valw (R.cat (a := s10) (b := [34]) rfl rfl hs11) ?_
      refine WL.valw (R.as (v := (str s11)) rfl) ?_
      refine WL.nil ?_
      obtain rfl := Option.some.inj h
      refine WP.ret (Out.one rfl S rfl ?_)
      exact rfl
    · refine WP.condF rfl hc9 ?_
      refine WP.skip ?_
      refine WP.seq ?_
      refine WP.region ?_
      refine WL.valw (R.fieldB rfl fld45_1) ?_
      refine WL.valw (R.loadB (i := 0) (v := (str p_e.fTag)) S rfl rfl lay9 rfl) ?_
      obtain ⟨s12, hs12, h⟩ := bindE h
      refine WL.valw (R.cat (a := [34]) (b := p_e.fTag) rfl rfl hs12) ?_
      obtain ⟨s13, hs13, h⟩ := bindE h
      refine WL.valw (R.cat (a := s12) (b := [34]) rfl rfl hs13) ?_
      refine WL.valw (R.as (v := (str s13)) rfl) ?_
      refine WL.nil ?_
      obtain rfl := Option.some.inj h
      refine WP.ret (Out.one rfl S rfl ?_)
      exact rfl
set_option maxHeartbeats 4000000 in
theorem ref01_Index_ok {w0 : World} {H0 : Hp} (hw : Holds w0 H0) (p_s : Str) (p_c : UInt8) (p_from : Int) {r : Int} (h : ref01_Index p_s p_c p_from = some r) :
    Con Tryd.prog 30 [(str p_s), (byt p_c), (int p_from)] w0 H0 (fun H' v => v = (int r)) := by
  refine Con.mk (N := 21) Tryd.func30 rfl rfl (by kernel_rfl) rfl ?_
  have S := St.start hw
  refine WP.seq ?_
  refine WP.region ?_
  refine WL.valw (R.as (v := (int 0)) rfl) ?_
  refine WL.nil ?_
  refine WP.seq ?_
  refine WP.seq ?_
  refine WP.region ?_
  refine WL.valw (R.mv (v := (int p_from)) rfl) ?_
  refine WL.valw (R.as (v := (int p_from)) rfl) ?_
  refine WL.nil ?_
  obtain ⟨r10, hr11, h⟩ := bindE h
  refine WP.cut (fun f w => match r10 with | .inl _ => ∃ (H6 : Hp), St w0 H0 w H6 [] | .inr _ => False) ?_ ?_
  · refine WP.block ?_
    refine WP.loopM (ref01_Index_L0 p_s p_c) (fun s f w => match s with | i_4 => ∃ (H1 : Hp), f 0 = (str p_s) ∧ f 1 = (byt p_c) ∧ f 7 = (int i_4) ∧ St w0 H0 w H1 []) p_from r10 hr11 ?_ ?_
    · exact ⟨H0, rfl, rfl, rfl, S⟩
    · intro i_4 f w hI y7 hy8 hy9
      obtain ⟨H1, h2, h3, h5, S⟩ := hI
      refine WP.seq ?_
      refine WP.seq ?_
      refine WP.region ?_
      refine WL.valw (R.mv (v := (int i_4)) h5) ?_
      refine WL.valw (R.mv (v := (str p_s)) h2) ?_
      refine WL.valw (R.lenS (a := p_s) rfl Tryd.underlying9) ?_
      refine WL.valw (R.lss rfl rfl) ?_
      refine WL.nil ?_
      rcases condE hy8 with ⟨hc12, hy8⟩ | ⟨hc12, hy8⟩
      · refine WP.condT rfl hc12 ?_
        refine WP.skip ?_
        refine WP.seq ?_
        refine WP.block ?_
        refine WP.seq ?_
        refine WP.region ?_
        refine WL.valw (R.mv (v := (str p_s)) h2) ?_
        refine WL.valw (R.mv (v := (int i_4)) h5) ?_
        obtain ⟨c13, hc13, hy8⟩ := bindE hy8
        refine WL.valw (R.idxS rfl rfl Tryd.underlying9 hc13) ?_
        refine WL.valw (R.mv (v := (byt p_c)) h3) ?_
        refine WL.valw (R.eql8 (a := c13) (b := p_c) rfl rfl) ?_
        refine WL.nil ?_
        rcases condE hy8 with ⟨hc14, hy8⟩ | ⟨hc14, hy8⟩
        · refine WP.condT rfl hc14 ?_
          refine WP.seq ?_
          refine WP.region ?_
          refine WL.valw (R.mv (v := (int i_4)) h5) ?_
          refine WL.valw (R.as (v := (int i_4)) rfl) ?_
          refine WL.nil ?_
          obtain rfl := Option.some.inj hy8
          obtain rfl := hy9
          obtain rfl := Option.some.inj h
          refine WP.ret (Out.one rfl S rfl ?_)
          exact rfl
        · refine WP.condF rfl hc14 ?_
          refine WP.skip ?_
          refine WP.region ?_
          refine WL.valw (R.mv (v := (int i_4)) h5) ?_
          refine WL.valw (R.add rfl rfl) ?_
          refine WL.valw (R.as (v := (int (wr (i_4 + 1)))) rfl) ?_
          refine WL.nil ?_
          obtain rfl := Option.some.inj hy8
          exact ⟨rfl, ⟨H1, h2, h3, rfl, S⟩⟩
      · refine WP.condF rfl hc12 ?_
        refine WP.exit ?_
        obtain rfl := Option.some.inj hy8
        obtain rfl := hy9
        exact ⟨H1, S⟩
  · intro f w hM
    rcases r10 with _ | e
    · obtain ⟨H6, S⟩ := hM
      refine WP.seq ?_
      refine WP.region ?_
      refine WL.valw (R.as (v := (int (-1))) rfl) ?_
      refine WL.nil ?_
      obtain rfl := Option.some.inj h
      refine WP.ret (Out.one rfl S rfl ?_)
      exact rfl
    · exact hM.elim
set_option maxHeartbeats 4000000 in
theorem stringslite_HasPrefix_ok {w0 : World} {H0 : Hp} (hw : Holds w0 H0) (p_s : Str) (p_prefix : Str) {r : Bool} (h : stringslite_HasPrefix p_s p_prefix = some r) :
    Con Tryd.prog 87 [(str p_s), (str p_prefix)] w0 H0 (fun H' v => v = (boo r)) := by
  refine Con.mk (N := 18) Tryd.func87 rfl rfl (by kernel_rfl) rfl ?_
  have S := St.start hw
  refine WP.seq ?_
  refine WP.region ?_
  refine WL.valw (R.as (v := (boo false)) rfl) ?_
  refine WL.nil ?_
  refine WP.seq ?_
  refine WP.region ?_
  refine WL.valw (R.mv (v := (str p_s)) rfl) ?_
  refine WL.valw (R.lenS (a := p_s) rfl Tryd.underlying9) ?_
  refine WL.valw (R.mv (v := (str p_prefix)) rfl) ?_
  refine WL.valw (R.lenS (a := p_prefix) rfl Tryd.underlying9) ?_
  refine WL.valw (R.geq rfl rfl) ?_
  refine WL.valw (R.mv (v := (boo (decide ((p_prefix.length : Int) ≤ (p_s.length : Int))))) rfl) ?_
  obtain ⟨b4, hg2, h⟩ := bindE h
  refine WL.grp 7 [11, 12, 13, 14, 15, 16] 17 (boo b4) ?_ ?_
  · rcases boolE (decide ((p_prefix.length : Int) ≤ (p_s.length : Int))) with hb1 | hb1
    · replace hg2 := condT hg2 hb1
      refine WL.gyes rfl rfl hb1 ?_
      refine WL.valw (R.mv (v := (str p_s)) rfl) ?_
      refine WL.gyes rfl rfl hb1 ?_
      refine WL.valw (R.mv (v := (str p_prefix)) rfl) ?_
      refine WL.gyes rfl rfl hb1 ?_
      refine WL.valw (R.lenS (a := p_prefix) rfl Tryd.underlying9) ?_
      refine WL.gyes rfl rfl hb1 ?_
      obtain ⟨s3, hs3, hg2⟩ := bindE hg2
      refine WL.valw (R.subShi rfl rfl Tryd.underlying9 hs3) ?_
      refine WL.gyes rfl rfl hb1 ?_
      refine WL.valw (R.mv (v := (str p_prefix)) rfl) ?_
      refine WL.gyes rfl rfl hb1 ?_
      refine WL.valw (R.eqlS (a := s3) (b := p_prefix) rfl rfl) ?_
      refine WL.valw (R.pickT rfl hb1 rfl) ?_
      exact WL.nil ⟨(congrArg boo (Option.some.inj hg2)), (by repeat (first | refine agree_upd rfl ?_ | refine agree_upds' rfl ?_ | exact agree_refl)), rfl⟩
    · replace hg2 := condF hg2 hb1
      refine WL.gno rfl rfl hb1 ?_
      refine WL.gno rfl rfl hb1 ?_
      refine WL.gno rfl rfl hb1 ?_
      refine WL.gno rfl rfl hb1 ?_
      refine WL.gno rfl rfl hb1 ?_
      refine WL.gno rfl rfl hb1 ?_
      refine WL.valw (R.pickF rfl hb1 rfl) ?_
      exact WL.nil ⟨(congrArg boo (Option.some.inj hg2)), (by repeat (first | refine agree_upd rfl ?_ | refine agree_upds' rfl ?_ | exact agree_refl)), rfl⟩
  · intro us
    refine WL.valw (R.as (v := (boo b4)) rfl) ?_
    refine WL.nil ?_
    obtain rfl := Option.some.inj h
    refine WP.ret (Out.one rfl S rfl ?_)
    exact rfl
set_option maxHeartbeats 4000000 in
theorem stringslite_CutPrefix_ok {w0 : World} {H0 : Hp} (hw : Holds w0 H0) (p_s : Str) (p_prefix : Str) {r : (Str × Bool)} (h : stringslite_CutPrefix p_s p_prefix = some r) :
    Con Tryd.prog 81 [(str p_s), (str p_prefix)] w0 H0 (fun H' v => v = (.tuple ⟨[(str r.1), (boo r.2)]⟩)) := by
  refine Con.mk (N := 15) Tryd.func81 rfl rfl (by kernel_rfl) rfl ?_
  have S := St.start hw
  refine WP.seq ?_
  refine WP.region ?_
  refine WL.valw (R.as (v := (str [])) rfl) ?_
  refine WL.valw (R.as (v := (boo false)) rfl) ?_
  refine WL.nil ?_
  refine WP.seq ?_
  refine WP.seq ?_
  refine WP.region ?_
  refine WL.valw (R.mv (v := (str p_s)) rfl) ?_
  refine WL.valw (R.mv (v := (str p_prefix)) rfl) ?_
  obtain ⟨r1, hr1, h⟩ := bindE h
  refine W.call S rfl (stringslite_HasPrefix_ok S.holds p_s p_prefix hr1) ?_
  rintro v2 w3 H4 hle5 S rfl
  refine WL.valw (R.not rfl) ?_
  refine WL.nil ?_
  rcases condE h with ⟨hc6, h⟩ | ⟨hc6, h⟩
  · refine WP.condT rfl hc6 ?_
    refine WP.seq ?_
    refine WP.region ?_
    refine WL.valw (R.mv (v := (str p_s)) rfl) ?_
    refine WL.valw (R.as (v := (str p_s)) rfl) ?_
    refine WL.valw (R.as (v := (boo false)) rfl) ?_
    refine WL.nil ?_
    obtain rfl := Option.some.inj h
    refine WP.ret (Out.two rfl S rfl rfl ?_)
    exact rfl
  · refine WP.condF rfl hc6 ?_
    refine WP.skip ?_
    refine WP.seq ?_
    refine WP.region ?_
    refine WL.valw (R.mv (v := (str p_s)) rfl) ?_
    refine WL.valw (R.mv (v := (str p_prefix)) rfl) ?_
    refine WL.valw (R.lenS (a := p_prefix) rfl Tryd.underlying9) ?_
    obtain ⟨s7, hs7, h⟩ := bindE h
    refine WL.valw (R.subSlo rfl rfl Tryd.underlying9 hs7) ?_
    refine WL.valw (R.as (v := (str s7)) rfl) ?_
    refine WL.valw (R.as (v := (boo true)) rfl) ?_
    refine WL.nil ?_
    obtain rfl := Option.some.inj h
    refine WP.ret (Out.two rfl S rfl rfl ?_)
    exact rfl
end Go.Proofs
