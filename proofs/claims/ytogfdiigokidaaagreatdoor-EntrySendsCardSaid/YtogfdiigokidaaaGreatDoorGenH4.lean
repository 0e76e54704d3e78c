/- A part of the proof of laws of the seat: written by program over the translation. -/
import Derived.Test.YtogfdiigokidaaaGreatDoorGenH3
namespace Go.Proofs
open Go.Eng Go.Eng.Pure
set_option linter.unusedVariables false
set_option maxRecDepth 10000 in
set_option maxHeartbeats 4000000 in
theorem ref01_Remove_ok {w0 : World} {H0 : Hp} (hw : Holds w0 H0) (hG : Tryz.Gl w0) (p_l : (List GField)) (p_name : Str) {vp_l : Value} (Rp_l : Sl (α := GField) H0 vp_l p_l) {r : (List GField)} (h : ref01_Remove p_l p_name = some r) :
    Con Tryz.prog 23 [vp_l, (str p_name)] w0 H0 (fun H' v => Sl (α := GField) H' v r) := by
  refine Con.mk (N := 29) Tryz.func23 rfl rfl (by kernel_rfl) rfl ?_
  have S := St.start hw
  refine WP.seq ?_
  refine WP.region ?_
  refine WL.valw (R.as (v := (.slice none 0 0)) rfl) ?_
  refine WL.nil ?_
  refine WP.seq ?_
  refine WP.region ?_
  refine WL.valw (R.as (v := (.slice none 0 0)) rfl) ?_
  refine WL.nil ?_
  refine WP.seq ?_
  refine WP.seq ?_
  refine WP.region ?_
  refine WL.valw (R.as (v := (int 0)) rfl) ?_
  refine WL.nil ?_
  have S := S.addNil 53 2
  obtain ⟨out_11, hr19, h⟩ := bindE h
  refine WP.cut (fun f w => ∃ (H10 : Hp) (v12 : Value), f 5 = v12 ∧ Sl (α := GField) H10 v12 out_11 ∧ St w0 H0 w H10 [.row v12 53 2 out_11.length]) ?_ ?_
  · refine WP.block ?_
    refine WP.loopM (ref01_Remove_L0 p_l p_name) (fun s f w => match s with | (out_4, i_8) => ∃ (H1 : Hp) (v5 : Value), f 0 = vp_l ∧ f 1 = (str p_name) ∧ f 5 = v5 ∧ f 6 = (int i_8) ∧ Sl (α := GField) H1 vp_l p_l ∧ Sl (α := GField) H1 v5 out_4 ∧ St w0 H0 w H1 [.row v5 53 2 out_4.length]) (([] : List GField), 0) out_11 hr19 ?_ ?_
    · exact ⟨H0, .slice none 0 0, rfl, rfl, rfl, rfl, Rp_l, Sl.nil, S⟩
    · intro s f w hI y15 hy16 hy17
      obtain ⟨out_4, i_8⟩ := s
      obtain ⟨H1, v5, h2, h3, h7, h9, Rp_l, R6, S⟩ := hI
      refine WP.seq ?_
      refine WP.seq ?_
      refine WP.region ?_
      refine WL.valw (R.mv (v := (int i_8)) h9) ?_
      refine WL.valw (R.mv (v := vp_l) h2) ?_
      refine WL.valw (R.lenL (α := GField) (xs := p_l) (H := H1) Rp_l rfl Tryz.underlying24) ?_
      refine WL.valw (R.lss rfl rfl) ?_
      refine WL.nil ?_
      rcases condE hy16 with ⟨hc20, hy16⟩ | ⟨hc20, hy16⟩
      · refine WP.condT rfl hc20 ?_
        refine WP.skip ?_
        refine WP.seq ?_
        refine WP.block ?_
        refine WP.seq ?_
        refine WP.region ?_
        refine WL.valw (R.mv (v := vp_l) h2) ?_
        refine WL.valw (R.mv (v := (int i_8)) h9) ?_
        obtain ⟨x21, hx21, hy16⟩ := bindE hy16
        refine W.idx (α := GField) Rp_l rfl rfl el24 hx21 ?_
        rintro a22 _ hA23 rfl
        refine WL.valw (R.field rfl fld53_0) ?_
        have hA24 := At.add hA23 0 (by simp)
        refine WL.valw (R.loadH (v := (str x21.fName)) S rfl hA24 lay9 rfl) ?_
        refine WL.valw (R.mv (v := (str p_name)) h3) ?_
        obtain ⟨r25, hr25, hy16⟩ := bindE hy16
        refine W.call S rfl (ref01_Fold_ok S.holds (hG.post S.post) x21.fName p_name hr25) ?_
        rintro v26 w27 H28 hle29 S rfl
        have Rp_l := Sl.mono Rp_l hle29
        have R6 := Sl.mono R6 hle29
        have hA23 := At.mono hA23 hle29 (by simp)
        have hA24 := At.mono hA24 hle29 (by simp)
        refine WL.valw (R.not rfl) ?_
        refine WL.nil ?_
        rcases condE hy16 with ⟨hc30, hy16⟩ | ⟨hc30, hy16⟩
        · refine WP.condT rfl hc30 ?_
          refine WP.region ?_
          refine WL.valw (R.mv (v := v5) h7) ?_
          refine WL.valw (R.mv (v := vp_l) h2) ?_
          refine WL.valw (R.mv (v := (int i_8)) h9) ?_
          obtain ⟨x31, hx31, hy16⟩ := bindE hy16
          refine W.idx (α := GField) Rp_l rfl rfl el24 hx31 ?_
          rintro a32 _ hA33 rfl
          refine WL.valw (R.loadHN (vs := [(str x31.fName), (str x31.fValue)]) S rfl hA33 lay53 rfl rfl) ?_
          refine W.bslice (α := GField) [(agg [(str x31.fName), (str x31.fValue)])] ([x31] : List GField) S el24 rfl rfl rfl (by decide) (Go.Eng.encS ⟨rfl, rfl⟩ enc0) ?_
          intro u34 w35 H36 hle37 R38 S
          have Rp_l := Sl.mono Rp_l hle37
          have R6 := Sl.mono R6 hle37
          have hA23 := At.mono hA23 hle37 (by simp)
          have hA24 := At.mono hA24 hle37 (by simp)
          have hA33 := At.mono hA33 hle37 (by simp)
          obtain ⟨l39, hl39, hy16⟩ := bindE hy16
          refine W.app (α := GField) (i := 1) S el24 rfl rfl rfl R6 R38 hl39 ?_
          intro v40 w41 H42 hle43 R44 S
          have Rp_l := Sl.mono Rp_l hle43
          have R6 := Sl.mono R6 hle43
          have hA23 := At.mono hA23 hle43 (by simp)
          have hA24 := At.mono hA24 hle43 (by simp)
          have hA33 := At.mono hA33 hle43 (by simp)
          have R38 := Sl.mono R38 hle43
          refine WL.valw (R.as (v := v40) rfl) ?_
          refine WL.nil ?_
          refine WP.region ?_
          refine WL.valw (R.mv (v := (int i_8)) h9) ?_
          refine WL.valw (R.add rfl rfl) ?_
          refine WL.valw (R.as (v := (int (wr (i_8 + 1)))) rfl) ?_
          refine WL.nil ?_
          obtain rfl := Option.some.inj hy16
          exact ⟨rfl, ⟨H42, v40, h2, h3, rfl, rfl, Rp_l, R44, (S.drop _ (.cons _ (.cons_cons _ .slnil)))⟩⟩
        · refine WP.condF rfl hc30 ?_
          refine WP.skip ?_
          refine WP.region ?_
          refine WL.valw (R.mv (v := (int i_8)) h9) ?_
          refine WL.valw (R.add rfl rfl) ?_
          refine WL.valw (R.as (v := (int (wr (i_8 + 1)))) rfl) ?_
          refine WL.nil ?_
          obtain rfl := Option.some.inj hy16
          exact ⟨rfl, ⟨H28, v5, h2, h3, h7, rfl, Rp_l, R6, S⟩⟩
      · refine WP.condF rfl hc20 ?_
        refine WP.exit ?_
        obtain rfl := Option.some.inj hy16
        obtain rfl := hy17
        exact ⟨H1, v5, h7, R6, S⟩
  · rintro f w ⟨H10, v12, h14, R13, S⟩
    refine WP.seq ?_
    refine WP.region ?_
    refine WL.valw (R.mv (v := v12) h14) ?_
    refine WL.valw (R.as (v := v12) rfl) ?_
    refine WL.nil ?_
    obtain rfl := Option.some.inj h
    refine WP.ret (Out.one rfl S rfl ?_)
    exact R13
set_option maxRecDepth 10000 in
set_option maxHeartbeats 4000000 in
theorem ref01_Decimal_ok {w0 : World} {H0 : Hp} (hw : Holds w0 H0) (hG : Tryz.Gl w0) (p_n : Int) {r : Str} (h : ref01_Decimal p_n = some r) :
    Con Tryz.prog 64 [(int p_n)] w0 H0 (fun H' v => v = (str r)) := by
  refine Con.mk (N := 37) Tryz.func64 rfl rfl (by kernel_rfl) rfl ?_
  have S := St.start hw
  refine WP.seq ?_
  refine WP.region ?_
  refine WL.valw (R.as (v := (str [])) rfl) ?_
  refine WL.nil ?_
  refine WP.seq ?_
  refine WP.region ?_
  refine WL.valw (R.as (v := (.slice none 0 0)) rfl) ?_
  refine WL.nil ?_
  refine WP.seq ?_
  refine WP.region ?_
  refine WL.valw (R.mv (v := (int p_n)) rfl) ?_
  refine WL.valw (R.lss rfl rfl) ?_
  refine WL.valw (R.as (v := (boo (decide (p_n < 0)))) rfl) ?_
  refine WL.nil ?_
  refine WP.seq ?_
  refine WP.seq ?_
  refine WP.region ?_
  refine WL.valw (R.as (v := (int 0)) rfl) ?_
  refine WL.nil ?_
  obtain ⟨b_12, hr21, h⟩ := bindE h
  refine WP.cut (fun f w => ∃ (H11 : Hp) (v13 : Value), f 3 = v13 ∧ f 4 = (boo (decide (p_n < 0))) ∧ Sl (α := UInt8) H11 v13 b_12 ∧ St w0 H0 w H11 []) ?_ ?_
  · refine WP.block ?_
    refine WP.loopM (ref01_Decimal_L0) (fun s f w => match s with | (n_2, b_4, k_9) => ∃ (H1 : Hp) (v5 : Value), f 0 = (int n_2) ∧ f 3 = v5 ∧ f 4 = (boo (decide (p_n < 0))) ∧ f 5 = (int k_9) ∧ Sl (α := UInt8) H1 v5 b_4 ∧ St w0 H0 w H1 []) (p_n, ([] : List UInt8), 0) b_12 hr21 ?_ ?_
    · exact ⟨H0, .slice none 0 0, rfl, rfl, rfl, rfl, Sl.nil, S⟩
    · intro s f w hI y17 hy18 hy19
      obtain ⟨n_2, b_4, k_9⟩ := s
      obtain ⟨H1, v5, h3, h7, h8, h10, R6, S⟩ := hI
      refine WP.seq ?_
      refine WP.seq ?_
      refine WP.region ?_
      refine WL.valw (R.mv (v := (int n_2)) h3) ?_
      refine WL.valw (R.neq rfl rfl) ?_
      refine WL.valw (R.mv (v := (boo (n_2 != 0))) rfl) ?_
      refine WL.grp 3 [12, 13] 14 (boo ((n_2 != 0) || (k_9 == 0))) ?_ ?_
      · rcases boolE (n_2 != 0) with hb22 | hb22
        · refine WL.gno rfl rfl hb22 ?_
          refine WL.gno rfl rfl hb22 ?_
          refine WL.valw (R.pickT rfl hb22 rfl) ?_
          exact WL.nil ⟨(orT hb22), (by repeat (first | refine agree_upd rfl ?_ | refine agree_upds' rfl ?_ | exact agree_refl)), rfl⟩
        · refine WL.gyes rfl rfl hb22 ?_
          refine WL.valw (R.mv (v := (int k_9)) h10) ?_
          refine WL.gyes rfl rfl hb22 ?_
          refine WL.valw (R.eql rfl rfl) ?_
          refine WL.valw (R.pickF rfl hb22 rfl) ?_
          exact WL.nil ⟨(orF hb22), (by repeat (first | refine agree_upd rfl ?_ | refine agree_upds' rfl ?_ | exact agree_refl)), rfl⟩
      · intro us
        refine WL.nil ?_
        rcases condE hy18 with ⟨hc24, hy18⟩ | ⟨hc24, hy18⟩
        · refine WP.condT rfl hc24 ?_
          refine WP.skip ?_
          refine WP.seq ?_
          refine WP.block ?_
          refine WP.seq ?_
          refine WP.region ?_
          refine WL.valw (R.mv (v := (int n_2)) h3) ?_
          obtain ⟨n25, hn25, hy18⟩ := bindE hy18
          refine WL.valw (R.rem' rfl rfl hn25) ?_
          refine WL.valw (R.as (v := (int n25)) rfl) ?_
          refine WL.nil ?_
          refine WP.seq ?_
          refine WP.seq ?_
          refine WP.region ?_
          refine WL.valw (R.mv (v := (int n25)) rfl) ?_
          refine WL.valw (R.lss rfl rfl) ?_
          refine WL.nil ?_
          obtain ⟨d_31, hj33, hy18⟩ := bindE hy18
          refine WP.cut (fun f w => ∃ (H26 : Hp), f 0 = (int n_2) ∧ f 3 = v5 ∧ f 4 = (boo (decide (p_n < 0))) ∧ f 5 = (int k_9) ∧ f 6 = (int d_31) ∧ Sl (α := UInt8) H26 v5 b_4 ∧ St w0 H0 w H26 []) ?_ ?_
          · rcases condE hj33 with ⟨hc35, hj33⟩ | ⟨hc35, hj33⟩
            · refine WP.condT rfl hc35 ?_
              refine WP.region ?_
              refine WL.valw (R.mv (v := (int n25)) rfl) ?_
              refine WL.valw (R.neg rfl) ?_
              refine WL.valw (R.as (v := (int (wr (-n25)))) rfl) ?_
              refine WL.nil ?_
              obtain rfl := Option.some.inj hj33
              exact ⟨H1, h3, h7, h8, h10, rfl, R6, S⟩
            · refine WP.condF rfl hc35 ?_
              refine WP.skip ?_
              obtain rfl := Option.some.inj hj33
              exact ⟨H1, h3, h7, h8, h10, rfl, R6, S⟩
          · rintro f w ⟨H26, h27, h28, h29, h30, h32, R6, S⟩
            refine WP.seq ?_
            refine WP.region ?_
            refine WL.valw (R.mv (v := (int d_31)) h32) ?_
            refine WL.valw (R.add rfl rfl) ?_
            refine WL.valw (R.u8of64 rfl Tryz.underlying3 Tryz.underlying5) ?_
            refine W.bslice (α := UInt8) [(byt (toU8 (wr (48 + d_31))))] ([toU8 (wr (48 + d_31))] : List UInt8) S el130 rfl rfl rfl (by decide) (Go.Eng.encS ⟨rfl, rfl⟩ enc0) ?_
            intro u36 w37 H38 hle39 R40 S
            have R6 := Sl.mono R6 hle39
            refine WL.valw (R.mv (v := v5) h28) ?_
            obtain ⟨l41, hl41, hy18⟩ := bindE hy18
            refine W.app (α := UInt8) (i := 0) S el130 rfl rfl rfl R40 R6 hl41 ?_
            intro v42 w43 H44 hle45 R46 S
            have R6 := Sl.mono R6 hle45
            have R40 := Sl.mono R40 hle45
            refine WL.valw (R.as (v := v42) rfl) ?_
            refine WL.nil ?_
            refine WP.region ?_
            refine WL.valw (R.mv (v := (int n_2)) h27) ?_
            obtain ⟨n47, hn47, hy18⟩ := bindE hy18
            refine WL.valw (R.quo' rfl rfl hn47) ?_
            refine WL.valw (R.as (v := (int n47)) rfl) ?_
            refine WL.nil ?_
            refine WP.region ?_
            refine WL.valw (R.mv (v := (int k_9)) h30) ?_
            refine WL.valw (R.add rfl rfl) ?_
            refine WL.valw (R.as (v := (int (wr (k_9 + 1)))) rfl) ?_
            refine WL.nil ?_
            obtain rfl := Option.some.inj hy18
            exact ⟨rfl, ⟨H44, v42, rfl, rfl, h29, rfl, R46, (S.drop _ (.cons _ .slnil))⟩⟩
        · refine WP.condF rfl hc24 ?_
          refine WP.exit ?_
          obtain rfl := Option.some.inj hy18
          obtain rfl := hy19
          exact ⟨H1, v5, h7, h8, R6, S⟩
  · rintro f w ⟨H11, v13, h15, h16, R14, S⟩
    refine WP.seq ?_
    refine WP.seq ?_
    refine WP.region ?_
    refine WL.valw (R.mv (v := (boo (decide (p_n < 0)))) h16) ?_
    refine WL.nil ?_
    rcases condE h with ⟨hc48, h⟩ | ⟨hc48, h⟩
    · refine WP.condT rfl hc48 ?_
      refine WP.seq ?_
      refine WP.region ?_
      refine WL.valw (R.mv (v := v13) h15) ?_
      refine WL.valw (R.strL S R14 rfl Tryz.underlying130 Tryz.underlying9 Tryz.underlying5) ?_
      obtain ⟨s49, hs49, h⟩ := bindE h
      refine WL.valw (R.cat (a := [45]) (b := b_12) rfl rfl hs49) ?_
      refine WL.valw (R.as (v := (str s49)) rfl) ?_
      refine WL.nil ?_
      obtain rfl := Option.some.inj h
      refine WP.ret (Out.one rfl S rfl ?_)
      exact rfl
    · refine WP.condF rfl hc48 ?_
      refine WP.skip ?_
      refine WP.seq ?_
      refine WP.region ?_
      refine WL.valw (R.mv (v := v13) h15) ?_
      refine WL.valw (R.strL S R14 rfl Tryz.underlying130 Tryz.underlying9 Tryz.underlying5) ?_
      refine WL.valw (R.as (v := (str b_12)) rfl) ?_
      refine WL.nil ?_
      obtain rfl := Option.some.inj h
      refine WP.ret (Out.one rfl S rfl ?_)
      exact rfl
end Go.Proofs
