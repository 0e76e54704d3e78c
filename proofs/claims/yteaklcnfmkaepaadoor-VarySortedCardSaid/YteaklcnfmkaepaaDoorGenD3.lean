/- A part of the proof of laws of the seat: written by program over the translation. -/
import Derived.Test.YteaklcnfmkaepaaDoorGenD2
namespace Go.Proofs
open Go.Eng Go.Eng.Pure
set_option linter.unusedVariables false
set_option maxRecDepth 10000 in
set_option maxHeartbeats 4000000 in
theorem ref19_Snapshot_ok {w0 : World} {H0 : Hp} (hw : Holds w0 H0) (p_names : (List Str)) (p_l : (List GField)) {vp_names : Value} {vp_l : Value} (Rp_names : Sl (α := Str) H0 vp_names p_names) (Rp_l : Sl (α := GField) H0 vp_l p_l) {r : (List Str)} (h : ref19_Snapshot p_names p_l = some r) :
    Con Tryd.prog 14 [vp_names, vp_l] w0 H0 (fun H' v => Sl (α := Str) H' v r) := by
  refine Con.mk (N := 23) Tryd.func14 rfl rfl (by kernel_rfl) rfl ?_
  have S := St.start hw
  refine WP.seq ?_
  refine WP.region ?_
  refine WL.valw (R.as (v := (.slice none 0 0)) rfl) ?_
  refine WL.nil ?_
  refine WP.seq ?_
  refine WP.region ?_
  refine WL.valw (R.as (v := (.slice none 0 0)) rfl) ?_
  refine WL.nil ?_
  refine WP.seq ?_
  refine WP.seq ?_
  refine WP.region ?_
  refine WL.valw (R.as (v := (int 0)) rfl) ?_
  refine WL.nil ?_
  have S := S.addNil 9 1
  obtain ⟨out_11, hr19, h⟩ := bindE h
  refine WP.cut (fun f w => ∃ (H10 : Hp) (v12 : Value), f 5 = v12 ∧ Sl (α := Str) H10 v12 out_11 ∧ St w0 H0 w H10 [.row v12 9 1 out_11.length]) ?_ ?_
  · refine WP.block ?_
    refine WP.loopM (ref19_Snapshot_L0 p_names p_l) (fun s f w => match s with | (out_4, i_8) => ∃ (H1 : Hp) (v5 : Value), f 0 = vp_names ∧ f 1 = vp_l ∧ f 5 = v5 ∧ f 6 = (int i_8) ∧ Sl (α := Str) H1 vp_names p_names ∧ Sl (α := GField) H1 vp_l p_l ∧ Sl (α := Str) H1 v5 out_4 ∧ St w0 H0 w H1 [.row v5 9 1 out_4.length]) (([] : List Str), 0) out_11 hr19 ?_ ?_
    · exact ⟨H0, .slice none 0 0, rfl, rfl, rfl, rfl, Rp_names, Rp_l, Sl.nil, S⟩
    · intro s f w hI y15 hy16 hy17
      obtain ⟨out_4, i_8⟩ := s
      obtain ⟨H1, v5, h2, h3, h7, h9, Rp_names, Rp_l, R6, S⟩ := hI
      refine WP.seq ?_
      refine WP.seq ?_
      refine WP.region ?_
      refine WL.valw (R.mv (v := (int i_8)) h9) ?_
      refine WL.valw (R.mv (v := vp_names) h2) ?_
      refine WL.valw (R.lenL (α := Str) (xs := p_names) (H := H1) Rp_names rfl Tryd.underlying22) ?_
      refine WL.valw (R.lss rfl rfl) ?_
      refine WL.nil ?_
      rcases condE hy16 with ⟨hc20, hy16⟩ | ⟨hc20, hy16⟩
      · refine WP.condT rfl hc20 ?_
        refine WP.skip ?_
        refine WP.seq ?_
        refine WP.block ?_
        refine WP.region ?_
        refine WL.valw (R.mv (v := v5) h7) ?_
        refine WL.valw (R.mv (v := vp_names) h2) ?_
        refine WL.valw (R.mv (v := (int i_8)) h9) ?_
        obtain ⟨x21, hx21, hy16⟩ := bindE hy16
        refine W.idx (α := Str) Rp_names rfl rfl el22 hx21 ?_
        rintro a22 _ hA23 rfl
        refine WL.valw (R.loadH (v := (str x21)) S rfl hA23 lay9 rfl) ?_
        refine WL.valw (R.mv (v := vp_l) h3) ?_
        obtain ⟨r24, hr24, hy16⟩ := bindE hy16
        refine W.call S rfl (ref19_VaryValue_ok S.holds x21 p_l Rp_l hr24) ?_
        rintro v25 w26 H27 hle28 S rfl
        have Rp_names := Sl.mono Rp_names hle28
        have Rp_l := Sl.mono Rp_l hle28
        have R6 := Sl.mono R6 hle28
        have hA23 := At.mono hA23 hle28 (by simp)
        refine W.bslice (α := Str) [(str r24)] ([r24] : List Str) S el22 rfl rfl rfl (by decide) (Go.Eng.encS ⟨rfl, rfl⟩ enc0) ?_
        intro u29 w30 H31 hle32 R33 S
        have Rp_names := Sl.mono Rp_names hle32
        have Rp_l := Sl.mono Rp_l hle32
        have R6 := Sl.mono R6 hle32
        have hA23 := At.mono hA23 hle32 (by simp)
        obtain ⟨l34, hl34, hy16⟩ := bindE hy16
        refine W.app (α := Str) (i := 1) S el22 rfl rfl rfl R6 R33 hl34 ?_
        intro v35 w36 H37 hle38 R39 S
        have Rp_names := Sl.mono Rp_names hle38
        have Rp_l := Sl.mono Rp_l hle38
        have R6 := Sl.mono R6 hle38
        have hA23 := At.mono hA23 hle38 (by simp)
        have R33 := Sl.mono R33 hle38
        refine WL.valw (R.as (v := v35) rfl) ?_
        refine WL.nil ?_
        refine WP.region ?_
        refine WL.valw (R.mv (v := (int i_8)) h9) ?_
        refine WL.valw (R.add rfl rfl) ?_
        refine WL.valw (R.as (v := (int (wr (i_8 + 1)))) rfl) ?_
        refine WL.nil ?_
        obtain rfl := Option.some.inj hy16
        exact ⟨rfl, ⟨H37, v35, h2, h3, rfl, rfl, Rp_names, Rp_l, R39, (S.drop _ (.cons _ (.cons_cons _ .slnil)))⟩⟩
      · refine WP.condF rfl hc20 ?_
        refine WP.exit ?_
        obtain rfl := Option.some.inj hy16
        obtain rfl := hy17
        exact ⟨H1, v5, h7, R6, S⟩
  · rintro f w ⟨H10, v12, h14, R13, S⟩
    refine WP.seq ?_
    refine WP.region ?_
    refine WL.valw (R.mv (v := v12) h14) ?_
    refine WL.valw (R.as (v := v12) rfl) ?_
    refine WL.nil ?_
    obtain rfl := Option.some.inj h
    refine WP.ret (Out.one rfl S rfl ?_)
    exact R13
set_option maxRecDepth 10000 in
set_option maxHeartbeats 4000000 in
theorem ref10_SameStrings_ok {w0 : World} {H0 : Hp} (hw : Holds w0 H0) (p_a : (List Str)) (p_b : (List Str)) {vp_a : Value} {vp_b : Value} (Rp_a : Sl (α := Str) H0 vp_a p_a) (Rp_b : Sl (α := Str) H0 vp_b p_b) {r : Bool} (h : ref10_SameStrings p_a p_b = some r) :
    Con Tryd.prog 44 [vp_a, vp_b] w0 H0 (fun H' v => v = (boo r)) := by
  refine Con.mk (N := 26) Tryd.func44 rfl rfl (by kernel_rfl) rfl ?_
  have S := St.start hw
  refine WP.seq ?_
  refine WP.region ?_
  refine WL.valw (R.as (v := (boo false)) rfl) ?_
  refine WL.nil ?_
  refine WP.seq ?_
  refine WP.seq ?_
  refine WP.region ?_
  refine WL.valw (R.mv (v := vp_a) rfl) ?_
  refine WL.valw (R.lenL (α := Str) (xs := p_a) (H := H0) Rp_a rfl Tryd.underlying22) ?_
  refine WL.valw (R.mv (v := vp_b) rfl) ?_
  refine WL.valw (R.lenL (α := Str) (xs := p_b) (H := H0) Rp_b rfl Tryd.underlying22) ?_
  refine WL.valw (R.neq rfl rfl) ?_
  refine WL.nil ?_
  rcases condE h with ⟨hc1, h⟩ | ⟨hc1, h⟩
  · refine WP.condT rfl hc1 ?_
    refine WP.seq ?_
    refine WP.region ?_
    refine WL.valw (R.as (v := (boo false)) rfl) ?_
    refine WL.nil ?_
    obtain rfl := Option.some.inj h
    refine WP.ret (Out.one rfl S rfl ?_)
    exact rfl
  · refine WP.condF rfl hc1 ?_
    refine WP.skip ?_
    refine WP.seq ?_
    refine WP.seq ?_
    refine WP.region ?_
    refine WL.valw (R.as (v := (int 0)) rfl) ?_
    refine WL.nil ?_
    obtain ⟨r11, hr12, h⟩ := bindE h
    refine WP.cut (fun f w => match r11 with | .inl _ => ∃ (H7 : Hp), St w0 H0 w H7 [] | .inr _ => False) ?_ ?_
    · refine WP.block ?_
      refine WP.loopM (ref10_SameStrings_L0 p_a p_b) (fun s f w => match s with | i_5 => ∃ (H2 : Hp), f 0 = vp_a ∧ f 1 = vp_b ∧ f 5 = (int i_5) ∧ Sl (α := Str) H2 vp_a p_a ∧ Sl (α := Str) H2 vp_b p_b ∧ St w0 H0 w H2 []) 0 r11 hr12 ?_ ?_
      · exact ⟨H0, rfl, rfl, rfl, Rp_a, Rp_b, S⟩
      · intro i_5 f w hI y8 hy9 hy10
        obtain ⟨H2, h3, h4, h6, Rp_a, Rp_b, S⟩ := hI
        refine WP.seq ?_
        refine WP.seq ?_
        refine WP.region ?_
        refine WL.valw (R.mv (v := (int i_5)) h6) ?_
        refine WL.valw (R.mv (v := vp_a) h3) ?_
        refine WL.valw (R.lenL (α := Str) (xs := p_a) (H := H2) Rp_a rfl Tryd.underlying22) ?_
        refine WL.valw (R.lss rfl rfl) ?_
        refine WL.nil ?_
        rcases condE hy9 with ⟨hc13, hy9⟩ | ⟨hc13, hy9⟩
        · refine WP.condT rfl hc13 ?_
          refine WP.skip ?_
          refine WP.seq ?_
          refine WP.block ?_
          refine WP.seq ?_
          refine WP.quiet S (by kernel_rfl) (by kernel_rfl) ?_
          refine WQ.val (fun _ _ => (R.mv (v := vp_a) h3)) ?_
          refine WQ.val (fun _ _ => (R.mv (v := (int i_5)) h6)) ?_
          obtain ⟨x17, hx17, hy9⟩ := bindE hy9
          refine WQ.idx (α := Str) Rp_a rfl rfl el22 hx17 ?_
          rintro a18 _ hA19 rfl
          refine WQ.val (fun w hw => by obtain ⟨_, hq, S⟩ := hw; exact (R.loadH (v := (str x17)) S rfl (At.mono hA19 hq (by simp)) lay9 rfl)) ?_
          refine WQ.val (fun _ _ => (R.mv (v := vp_b) h4)) ?_
          refine WQ.val (fun _ _ => (R.mv (v := (int i_5)) h6)) ?_
          obtain ⟨x20, hx20, hy9⟩ := bindE hy9
          refine WQ.idx (α := Str) Rp_b rfl rfl el22 hx20 ?_
          rintro a21 _ hA22 rfl
          refine WQ.val (fun w hw => by obtain ⟨_, hq, S⟩ := hw; exact (R.loadH (v := (str x20)) S rfl (At.mono hA22 hq (by simp)) lay9 rfl)) ?_
          refine WQ.val (fun _ _ => (R.neqS (a := x17) (b := x20) rfl rfl)) ?_
          refine WQ.nil ?_
          intro w14 H15 hle16 S
          have Rp_a := Sl.mono Rp_a hle16
          have Rp_b := Sl.mono Rp_b hle16
          have hA19 := At.mono hA19 hle16 (by simp)
          have hA22 := At.mono hA22 hle16 (by simp)
          rcases condE hy9 with ⟨hc23, hy9⟩ | ⟨hc23, hy9⟩
          · refine WP.condT rfl hc23 ?_
            refine WP.seq ?_
            refine WP.region ?_
            refine WL.valw (R.as (v := (boo false)) rfl) ?_
            refine WL.nil ?_
            obtain rfl := Option.some.inj hy9
            obtain rfl := hy10
            obtain rfl := Option.some.inj h
            refine WP.ret (Out.one rfl S rfl ?_)
            exact rfl
          · refine WP.condF rfl hc23 ?_
            refine WP.skip ?_
            refine WP.region ?_
            refine WL.valw (R.mv (v := (int i_5)) h6) ?_
            refine WL.valw (R.add rfl rfl) ?_
            refine WL.valw (R.as (v := (int (wr (i_5 + 1)))) rfl) ?_
            refine WL.nil ?_
            obtain rfl := Option.some.inj hy9
            exact ⟨rfl, ⟨H15, h3, h4, rfl, Rp_a, Rp_b, S⟩⟩
        · refine WP.condF rfl hc13 ?_
          refine WP.exit ?_
          obtain rfl := Option.some.inj hy9
          obtain rfl := hy10
          exact ⟨H2, S⟩
    · intro f w hM
      rcases r11 with _ | e
      · obtain ⟨H7, S⟩ := hM
        refine WP.seq ?_
        refine WP.region ?_
        refine WL.valw (R.as (v := (boo true)) rfl) ?_
        refine WL.nil ?_
        obtain rfl := Option.some.inj h
        refine WP.ret (Out.one rfl S rfl ?_)
        exact rfl
      · exact hM.elim
set_option maxRecDepth 10000 in
set_option maxHeartbeats 4000000 in
theorem keep_SameStrings_ok {w0 : World} {H0 : Hp} (hw : Holds w0 H0) (p_a : (List Str)) (p_b : (List Str)) {vp_a : Value} {vp_b : Value} (Rp_a : Sl (α := Str) H0 vp_a p_a) (Rp_b : Sl (α := Str) H0 vp_b p_b) {r : Bool} (h : keep_SameStrings p_a p_b = some r) :
    Con Tryd.prog 12 [vp_a, vp_b] w0 H0 (fun H' v => v = (boo r)) := by
  refine Con.mk (N := 8) Tryd.func12 rfl rfl (by kernel_rfl) rfl ?_
  have S := St.start hw
  refine WP.seq ?_
  refine WP.region ?_
  refine WL.valw (R.as (v := (boo false)) rfl) ?_
  refine WL.nil ?_
  refine WP.seq ?_
  refine WP.region ?_
  refine WL.valw (R.mv (v := vp_a) rfl) ?_
  refine WL.valw (R.mv (v := vp_b) rfl) ?_
  obtain ⟨r1, hr1, h⟩ := bindE h
  refine W.call S rfl (ref10_SameStrings_ok S.holds p_a p_b Rp_a Rp_b hr1) ?_
  rintro v2 w3 H4 hle5 S rfl
  have Rp_a := Sl.mono Rp_a hle5
  have Rp_b := Sl.mono Rp_b hle5
  refine WL.valw (R.as (v := (boo r1)) rfl) ?_
  refine WL.nil ?_
  obtain rfl := Option.some.inj h
  refine WP.ret (Out.one rfl S rfl ?_)
  exact rfl
set_option maxRecDepth 10000 in
set_option maxHeartbeats 4000000 in
theorem slices_Equal_string_string_ok {w0 : World} {H0 : Hp} (hw : Holds w0 H0) (p_s1 : (List Str)) (p_s2 : (List Str)) {vp_s1 : Value} {vp_s2 : Value} (Rp_s1 : Sl (α := Str) H0 vp_s1 p_s1) (Rp_s2 : Sl (α := Str) H0 vp_s2 p_s2) {r : Bool} (h : slices_Equal_string_string p_s1 p_s2 = some r) :
    Con Tryd.prog 45 [vp_s1, vp_s2] w0 H0 (fun H' v => v = (boo r)) := by
  refine Con.mk (N := 26) Tryd.func45 rfl rfl (by kernel_rfl) rfl ?_
  have S := St.start hw
  refine WP.seq ?_
  refine WP.region ?_
  refine WL.valw (R.as (v := (boo false)) rfl) ?_
  refine WL.nil ?_
  refine WP.seq ?_
  refine WP.seq ?_
  refine WP.region ?_
  refine WL.valw (R.mv (v := vp_s1) rfl) ?_
  refine WL.valw (R.lenL (α := Str) (xs := p_s1) (H := H0) Rp_s1 rfl Tryd.underlying22) ?_
  refine WL.valw (R.mv (v := vp_s2) rfl) ?_
  refine WL.valw (R.lenL (α := Str) (xs := p_s2) (H := H0) Rp_s2 rfl Tryd.underlying22) ?_
  refine WL.valw (R.neq rfl rfl) ?_
  refine WL.nil ?_
  rcases condE h with ⟨hc1, h⟩ | ⟨hc1, h⟩
  · refine WP.condT rfl hc1 ?_
    refine WP.seq ?_
    refine WP.region ?_
    refine WL.valw (R.as (v := (boo false)) rfl) ?_
    refine WL.nil ?_
    obtain rfl := Option.some.inj h
    refine WP.ret (Out.one rfl S rfl ?_)
    exact rfl
  · refine WP.condF rfl hc1 ?_
    refine WP.skip ?_
    refine WP.seq ?_
    refine WP.seq ?_
    refine WP.region ?_
    refine WL.valw (R.mv (v := vp_s1) rfl) ?_
    refine WL.valw (R.lenL (α := Str) (xs := p_s1) (H := H0) Rp_s1 rfl Tryd.underlying22) ?_
    refine WL.valw (R.mv (v := (int 0)) rfl) ?_
    refine WL.nil ?_
    obtain ⟨r12, hr13, h⟩ := bindE h
    refine WP.cut (fun f w => match r12 with | .inl _ => ∃ (H8 : Hp), St w0 H0 w H8 [] | .inr _ => False) ?_ ?_
    · refine WP.block ?_
      refine WP.loopM (slices_Equal_string_string_L0 p_s1 p_s2) (fun s f w => match s with | y_6 => ∃ (H2 : Hp), f 0 = vp_s1 ∧ f 1 = vp_s2 ∧ f 12 = (int (p_s1.length : Int)) ∧ f 13 = (int y_6) ∧ Sl (α := Str) H2 vp_s1 p_s1 ∧ Sl (α := Str) H2 vp_s2 p_s2 ∧ St w0 H0 w H2 []) 0 r12 hr13 ?_ ?_
      · exact ⟨H0, rfl, rfl, rfl, rfl, Rp_s1, Rp_s2, S⟩
      · intro y_6 f w hI y9 hy10 hy11
        obtain ⟨H2, h3, h4, h5, h7, Rp_s1, Rp_s2, S⟩ := hI
        refine WP.seq ?_
        refine WP.region ?_
        refine WL.valw (R.lss h7 h5) ?_
        refine WL.nil ?_
        refine WP.seq ?_
        rcases condE hy10 with ⟨hc14, hy10⟩ | ⟨hc14, hy10⟩
        · refine WP.condT rfl hc14 ?_
          refine WP.skip ?_
          refine WP.seq ?_
          refine WP.block ?_
          refine WP.seq ?_
          refine WP.region ?_
          refine WL.valw (R.mv (v := (int y_6)) h7) ?_
          refine WL.valw (R.as (v := (int y_6)) rfl) ?_
          refine WL.nil ?_
          refine WP.seq ?_
          refine WP.quiet S (by kernel_rfl) (by kernel_rfl) ?_
          refine WQ.val (fun _ _ => (R.mv (v := vp_s1) h3)) ?_
          refine WQ.val (fun _ _ => (R.mv (v := (int y_6)) rfl)) ?_
          obtain ⟨x18, hx18, hy10⟩ := bindE hy10
          refine WQ.idx (α := Str) Rp_s1 rfl rfl el22 hx18 ?_
          rintro a19 _ hA20 rfl
          refine WQ.val (fun w hw => by obtain ⟨_, hq, S⟩ := hw; exact (R.loadH (v := (str x18)) S rfl (At.mono hA20 hq (by simp)) lay9 rfl)) ?_
          refine WQ.val (fun _ _ => (R.mv (v := vp_s2) h4)) ?_
          refine WQ.val (fun _ _ => (R.mv (v := (int y_6)) rfl)) ?_
          obtain ⟨x21, hx21, hy10⟩ := bindE hy10
          refine WQ.idx (α := Str) Rp_s2 rfl rfl el22 hx21 ?_
          rintro a22 _ hA23 rfl
          refine WQ.val (fun w hw => by obtain ⟨_, hq, S⟩ := hw; exact (R.loadH (v := (str x21)) S rfl (At.mono hA23 hq (by simp)) lay9 rfl)) ?_
          refine WQ.val (fun _ _ => (R.neqS (a := x18) (b := x21) rfl rfl)) ?_
          refine WQ.nil ?_
          intro w15 H16 hle17 S
          have Rp_s1 := Sl.mono Rp_s1 hle17
          have Rp_s2 := Sl.mono Rp_s2 hle17
          have hA20 := At.mono hA20 hle17 (by simp)
          have hA23 := At.mono hA23 hle17 (by simp)
          rcases condE hy10 with ⟨hc24, hy10⟩ | ⟨hc24, hy10⟩
          · refine WP.condT rfl hc24 ?_
            refine WP.seq ?_
            refine WP.region ?_
            refine WL.valw (R.as (v := (boo false)) rfl) ?_
            refine WL.nil ?_
            obtain rfl := Option.some.inj hy10
            obtain rfl := hy11
            obtain rfl := Option.some.inj h
            refine WP.ret (Out.one rfl S rfl ?_)
            exact rfl
          · refine WP.condF rfl hc24 ?_
            refine WP.skip ?_
            refine WP.region ?_
            refine WL.valw (R.add h7 rfl) ?_
            refine WL.valw (R.mv (v := (int (wr (y_6 + 1)))) rfl) ?_
            refine WL.nil ?_
            obtain rfl := Option.some.inj hy10
            exact ⟨rfl, ⟨H16, h3, h4, h5, rfl, Rp_s1, Rp_s2, S⟩⟩
        · refine WP.condF rfl hc14 ?_
          refine WP.exit ?_
          obtain rfl := Option.some.inj hy10
          obtain rfl := hy11
          exact ⟨H2, S⟩
    · intro f w hM
      rcases r12 with _ | e
      · obtain ⟨H8, S⟩ := hM
        refine WP.seq ?_
        refine WP.region ?_
        refine WL.valw (R.as (v := (boo true)) rfl) ?_
        refine WL.nil ?_
        obtain rfl := Option.some.inj h
        refine WP.ret (Out.one rfl S rfl ?_)
        exact rfl
      · exact hM.elim
set_option maxRecDepth 10000 in
set_option maxHeartbeats 4000000 in
theorem vary_Match_ok {w0 : World} {H0 : Hp} (hw : Holds w0 H0) (p_names : (List Str)) (p_snapshot : (List Str)) (p_l : (List GField)) {vp_names : Value} {vp_snapshot : Value} {vp_l : Value} (Rp_names : Sl (α := Str) H0 vp_names p_names) (Rp_snapshot : Sl (α := Str) H0 vp_snapshot p_snapshot) (Rp_l : Sl (α := GField) H0 vp_l p_l) {r : Bool} (h : vary_Match p_names p_snapshot p_l = some r) :
    Con Tryd.prog 15 [vp_names, vp_snapshot, vp_l] w0 H0 (fun H' v => v = (boo r)) := by
  refine Con.mk (N := 19) Tryd.func15 rfl rfl (by kernel_rfl) rfl ?_
  have S := St.start hw
  refine WP.seq ?_
  refine WP.region ?_
  refine WL.valw (R.as (v := (boo false)) rfl) ?_
  refine WL.nil ?_
  refine WP.seq ?_
  refine WP.region ?_
  refine WL.valw (R.mv (v := vp_names) rfl) ?_
  refine WL.valw (R.lenL (α := Str) (xs := p_names) (H := H0) Rp_names rfl Tryd.underlying22) ?_
  refine WL.valw (R.mv (v := vp_snapshot) rfl) ?_
  refine WL.valw (R.lenL (α := Str) (xs := p_snapshot) (H := H0) Rp_snapshot rfl Tryd.underlying22) ?_
  refine WL.valw (R.eql rfl rfl) ?_
  refine WL.valw (R.mv (v := (boo ((p_names.length : Int) == (p_snapshot.length : Int)))) rfl) ?_
  obtain ⟨b14, hg2, h⟩ := bindE h
  refine WL.grpw 6 [13, 14, 15, 16, 17] 18 (boo b14) (fun w => ∃ H' : Hp, H0.le H' ∧ St w0 H0 w H' []) ?_ ?_
  · rcases boolE ((p_names.length : Int) == (p_snapshot.length : Int)) with hb1 | hb1
    · replace hg2 := condT hg2 hb1
      refine WL.gyes rfl rfl hb1 ?_
      refine WL.valw (R.mv (v := vp_names) rfl) ?_
      refine WL.gyes rfl rfl hb1 ?_
      refine WL.valw (R.mv (v := vp_l) rfl) ?_
      refine WL.gyes rfl rfl hb1 ?_
      obtain ⟨r3, hr3, hg2⟩ := bindE hg2
      refine W.call S rfl (vary_Snapshot_ok S.holds p_names p_l Rp_names Rp_l hr3) ?_
      rintro v4 w5 H6 hle7 S R8
      have Rp_names := Sl.mono Rp_names hle7
      have Rp_snapshot := Sl.mono Rp_snapshot hle7
      have Rp_l := Sl.mono Rp_l hle7
      refine WL.gyes rfl rfl hb1 ?_
      refine WL.valw (R.mv (v := vp_snapshot) rfl) ?_
      refine WL.gyes rfl rfl hb1 ?_
      obtain ⟨r9, hr9, hg2⟩ := bindE hg2
      refine W.call S rfl (slices_Equal_string_string_ok S.holds r3 p_snapshot R8 Rp_snapshot hr9) ?_
      rintro v10 w11 H12 hle13 S rfl
      have Rp_names := Sl.mono Rp_names hle13
      have Rp_snapshot := Sl.mono Rp_snapshot hle13
      have Rp_l := Sl.mono Rp_l hle13
      have R8 := Sl.mono R8 hle13
      refine WL.valw (R.pickT rfl hb1 rfl) ?_
      exact WL.nil ⟨(congrArg boo (Option.some.inj hg2)), (by repeat (first | refine agree_upd rfl ?_ | refine agree_upds' rfl ?_ | exact agree_refl)), ⟨H12, (hle7.trans hle13), S⟩⟩
    · replace hg2 := condF hg2 hb1
      refine WL.gno rfl rfl hb1 ?_
      refine WL.gno rfl rfl hb1 ?_
      refine WL.gno rfl rfl hb1 ?_
      refine WL.gno rfl rfl hb1 ?_
      refine WL.gno rfl rfl hb1 ?_
      refine WL.valw (R.pickF rfl hb1 rfl) ?_
      exact WL.nil ⟨(congrArg boo (Option.some.inj hg2)), (by repeat (first | refine agree_upd rfl ?_ | refine agree_upds' rfl ?_ | exact agree_refl)), ⟨H0, (Hp.le.refl _), S⟩⟩
  · intro us w16 ⟨H15, hle17, S⟩
    have Rp_names := Sl.mono Rp_names hle17
    have Rp_snapshot := Sl.mono Rp_snapshot hle17
    have Rp_l := Sl.mono Rp_l hle17
    refine WL.valw (R.as (v := (boo b14)) rfl) ?_
    refine WL.nil ?_
    obtain rfl := Option.some.inj h
    refine WP.ret (Out.one rfl S rfl ?_)
    exact rfl
set_option maxRecDepth 10000 in
set_option maxHeartbeats 4000000 in
theorem ref19_VaryMatch_ok {w0 : World} {H0 : Hp} (hw : Holds w0 H0) (p_names : (List Str)) (p_snapshot : (List Str)) (p_l : (List GField)) {vp_names : Value} {vp_snapshot : Value} {vp_l : Value} (Rp_names : Sl (α := Str) H0 vp_names p_names) (Rp_snapshot : Sl (α := Str) H0 vp_snapshot p_snapshot) (Rp_l : Sl (α := GField) H0 vp_l p_l) {r : Bool} (h : ref19_VaryMatch p_names p_snapshot p_l = some r) :
    Con Tryd.prog 16 [vp_names, vp_snapshot, vp_l] w0 H0 (fun H' v => v = (boo r)) := by
  refine Con.mk (N := 19) Tryd.func16 rfl rfl (by kernel_rfl) rfl ?_
  have S := St.start hw
  refine WP.seq ?_
  refine WP.region ?_
  refine WL.valw (R.as (v := (boo false)) rfl) ?_
  refine WL.nil ?_
  refine WP.seq ?_
  refine WP.region ?_
  refine WL.valw (R.mv (v := vp_names) rfl) ?_
  refine WL.valw (R.lenL (α := Str) (xs := p_names) (H := H0) Rp_names rfl Tryd.underlying22) ?_
  refine WL.valw (R.mv (v := vp_snapshot) rfl) ?_
  refine WL.valw (R.lenL (α := Str) (xs := p_snapshot) (H := H0) Rp_snapshot rfl Tryd.underlying22) ?_
  refine WL.valw (R.eql rfl rfl) ?_
  refine WL.valw (R.mv (v := (boo ((p_names.length : Int) == (p_snapshot.length : Int)))) rfl) ?_
  obtain ⟨b14, hg2, h⟩ := bindE h
  refine WL.grpw 6 [13, 14, 15, 16, 17] 18 (boo b14) (fun w => ∃ H' : Hp, H0.le H' ∧ St w0 H0 w H' []) ?_ ?_
  · rcases boolE ((p_names.length : Int) == (p_snapshot.length : Int)) with hb1 | hb1
    · replace hg2 := condT hg2 hb1
      refine WL.gyes rfl rfl hb1 ?_
      refine WL.valw (R.mv (v := vp_names) rfl) ?_
      refine WL.gyes rfl rfl hb1 ?_
      refine WL.valw (R.mv (v := vp_l) rfl) ?_
      refine WL.gyes rfl rfl hb1 ?_
      obtain ⟨r3, hr3, hg2⟩ := bindE hg2
      refine W.call S rfl (ref19_Snapshot_ok S.holds p_names p_l Rp_names Rp_l hr3) ?_
      rintro v4 w5 H6 hle7 S R8
      have Rp_names := Sl.mono Rp_names hle7
      have Rp_snapshot := Sl.mono Rp_snapshot hle7
      have Rp_l := Sl.mono Rp_l hle7
      refine WL.gyes rfl rfl hb1 ?_
      refine WL.valw (R.mv (v := vp_snapshot) rfl) ?_
      refine WL.gyes rfl rfl hb1 ?_
      obtain ⟨r9, hr9, hg2⟩ := bindE hg2
      refine W.call S rfl (ref10_SameStrings_ok S.holds r3 p_snapshot R8 Rp_snapshot hr9) ?_
      rintro v10 w11 H12 hle13 S rfl
      have Rp_names := Sl.mono Rp_names hle13
      have Rp_snapshot := Sl.mono Rp_snapshot hle13
      have Rp_l := Sl.mono Rp_l hle13
      have R8 := Sl.mono R8 hle13
      refine WL.valw (R.pickT rfl hb1 rfl) ?_
      exact WL.nil ⟨(congrArg boo (Option.some.inj hg2)), (by repeat (first | refine agree_upd rfl ?_ | refine agree_upds' rfl ?_ | exact agree_refl)), ⟨H12, (hle7.trans hle13), S⟩⟩
    · replace hg2 := condF hg2 hb1
      refine WL.gno rfl rfl hb1 ?_
      refine WL.gno rfl rfl hb1 ?_
      refine WL.gno rfl rfl hb1 ?_
      refine WL.gno rfl rfl hb1 ?_
      refine WL.gno rfl rfl hb1 ?_
      refine WL.valw (R.pickF rfl hb1 rfl) ?_
      exact WL.nil ⟨(congrArg boo (Option.some.inj hg2)), (by repeat (first | refine agree_upd rfl ?_ | refine agree_upds' rfl ?_ | exact agree_refl)), ⟨H0, (Hp.le.refl _), S⟩⟩
  · intro us w16 ⟨H15, hle17, S⟩
    have Rp_names := Sl.mono Rp_names hle17
    have Rp_snapshot := Sl.mono Rp_snapshot hle17
    have Rp_l := Sl.mono Rp_l hle17
    refine WL.valw (R.as (v := (boo b14)) rfl) ?_
    refine WL.nil ?_
    obtain rfl := Option.some.inj h
    refine WP.ret (Out.one rfl S rfl ?_)
    exact rfl
set_option maxRecDepth 10000 in
set_option maxHeartbeats 4000000 in
theorem law19_awake_ok {w0 : World} {H0 : Hp} (hw : Holds w0 H0) {r : Bool} (h : law19_awake = some r) :
    Con Tryd.prog 17 [] w0 H0 (fun H' v => v = (boo r)) := by
  refine Con.mk (N := 26) Tryd.func17 rfl rfl (by kernel_rfl) rfl ?_
  have S := St.start hw
  refine WP.seq ?_
  refine WP.region ?_
  refine WL.valw (R.as (v := (boo false)) rfl) ?_
  refine WL.nil ?_
  refine WP.seq ?_
  refine WP.region ?_
  refine WL.valw (R.build [(0, (str [65, 99, 99, 101, 112, 116, 45, 76, 97, 110, 103, 117, 97, 103, 101])), (1, (str [101, 110, 44, 68, 69]))] [(str [65, 99, 99, 101, 112, 116, 45, 76, 97, 110, 103, 117, 97, 103, 101]), (str [101, 110, 44, 68, 69])] bp49 zer49 rfl rfl) ?_
  refine WL.valw (R.build [(0, (str [120])), (1, (str [97]))] [(str [120]), (str [97])] bp49 zer49 rfl rfl) ?_
  refine W.bslice (α := GField) [(agg [(str [65, 99, 99, 101, 112, 116, 45, 76, 97, 110, 103, 117, 97, 103, 101]), (str [101, 110, 44, 68, 69])]), (agg [(str [120]), (str [97])])] ([(⟨[65, 99, 99, 101, 112, 116, 45, 76, 97, 110, 103, 117, 97, 103, 101], [101, 110, 44, 68, 69]⟩ : GField), (⟨[120], [97]⟩ : GField)] : List GField) S el23 rfl rfl rfl (by decide) (Go.Eng.encS ⟨rfl, rfl⟩ (Go.Eng.encS ⟨rfl, rfl⟩ enc0)) ?_
  intro u1 w2 H3 hle4 R5 S
  refine WL.valw (R.build [(0, (str [97, 99, 99, 101, 112, 116, 45, 108, 97, 110, 103, 117, 97, 103, 101])), (1, (str [69, 78, 32, 44, 32, 100, 101]))] [(str [97, 99, 99, 101, 112, 116, 45, 108, 97, 110, 103, 117, 97, 103, 101]), (str [69, 78, 32, 44, 32, 100, 101])] bp49 zer49 rfl rfl) ?_
  refine WL.valw (R.build [(0, (str [120])), (1, (str [65]))] [(str [120]), (str [65])] bp49 zer49 rfl rfl) ?_
  refine W.bslice (α := GField) [(agg [(str [97, 99, 99, 101, 112, 116, 45, 108, 97, 110, 103, 117, 97, 103, 101]), (str [69, 78, 32, 44, 32, 100, 101])]), (agg [(str [120]), (str [65])])] ([(⟨[97, 99, 99, 101, 112, 116, 45, 108, 97, 110, 103, 117, 97, 103, 101], [69, 78, 32, 44, 32, 100, 101]⟩ : GField), (⟨[120], [65]⟩ : GField)] : List GField) S el23 rfl rfl rfl (by decide) (Go.Eng.encS ⟨rfl, rfl⟩ (Go.Eng.encS ⟨rfl, rfl⟩ enc0)) ?_
  intro u6 w7 H8 hle9 R10 S
  have R5 := Sl.mono R5 hle9
  refine WL.valw (R.as (v := u1) rfl) ?_
  refine WL.valw (R.as (v := u6) rfl) ?_
  refine WL.nil ?_
  refine WP.seq ?_
  refine WP.region ?_
  refine W.bslice (α := Str) [(str [97, 99, 99, 101, 112, 116, 45, 108, 97, 110, 103, 117, 97, 103, 101])] ([[97, 99, 99, 101, 112, 116, 45, 108, 97, 110, 103, 117, 97, 103, 101]] : List Str) S el22 rfl rfl rfl (by decide) (Go.Eng.encS ⟨rfl, rfl⟩ enc0) ?_
  intro u11 w12 H13 hle14 R15 S
  have R5 := Sl.mono R5 hle14
  have R10 := Sl.mono R10 hle14
  refine WL.valw (R.as (v := u11) rfl) ?_
  refine WL.nil ?_
  refine WP.seq ?_
  refine WP.region ?_
  refine WL.valw (R.mv (v := u11) rfl) ?_
  refine WL.valw (R.mv (v := u11) rfl) ?_
  refine WL.valw (R.mv (v := u1) rfl) ?_
  obtain ⟨r16, hr16, h⟩ := bindE h
  refine W.call S rfl (vary_Snapshot_ok S.holds ([[97, 99, 99, 101, 112, 116, 45, 108, 97, 110, 103, 117, 97, 103, 101]] : List Str) ([(⟨[65, 99, 99, 101, 112, 116, 45, 76, 97, 110, 103, 117, 97, 103, 101], [101, 110, 44, 68, 69]⟩ : GField), (⟨[120], [97]⟩ : GField)] : List GField) R15 R5 hr16) ?_
  rintro v17 w18 H19 hle20 S R21
  have R5 := Sl.mono R5 hle20
  have R10 := Sl.mono R10 hle20
  have R15 := Sl.mono R15 hle20
  refine WL.valw (R.mv (v := u6) rfl) ?_
  obtain ⟨r22, hr22, h⟩ := bindE h
  refine W.call S rfl (vary_Match_ok S.holds ([[97, 99, 99, 101, 112, 116, 45, 108, 97, 110, 103, 117, 97, 103, 101]] : List Str) r16 ([(⟨[97, 99, 99, 101, 112, 116, 45, 108, 97, 110, 103, 117, 97, 103, 101], [69, 78, 32, 44, 32, 100, 101]⟩ : GField), (⟨[120], [65]⟩ : GField)] : List GField) R15 R21 R10 hr22) ?_
  rintro v23 w24 H25 hle26 S rfl
  have R5 := Sl.mono R5 hle26
  have R10 := Sl.mono R10 hle26
  have R15 := Sl.mono R15 hle26
  have R21 := Sl.mono R21 hle26
  refine WL.valw (R.mv (v := (boo r22)) rfl) ?_
  obtain ⟨b50, hg28, h⟩ := bindE h
  refine WL.grpw 8 [18, 19, 20, 21, 22, 23, 24] 25 (boo b50) (fun w => ∃ H' : Hp, H25.le H' ∧ St w0 H0 w H' [.row u11 9 1 ([[97, 99, 99, 101, 112, 116, 45, 108, 97, 110, 103, 117, 97, 103, 101]] : List Str).length, .row u6 49 2 ([(⟨[97, 99, 99, 101, 112, 116, 45, 108, 97, 110, 103, 117, 97, 103, 101], [69, 78, 32, 44, 32, 100, 101]⟩ : GField), (⟨[120], [65]⟩ : GField)] : List GField).length, .row u1 49 2 ([(⟨[65, 99, 99, 101, 112, 116, 45, 76, 97, 110, 103, 117, 97, 103, 101], [101, 110, 44, 68, 69]⟩ : GField), (⟨[120], [97]⟩ : GField)] : List GField).length]) ?_ ?_
  · rcases boolE r22 with hb27 | hb27
    · replace hg28 := condT hg28 hb27
      refine WL.gyes rfl rfl hb27 ?_
      refine W.bslice (α := Str) [(str [120])] ([[120]] : List Str) S el22 rfl rfl rfl (by decide) (Go.Eng.encS ⟨rfl, rfl⟩ enc0) ?_
      intro u29 w30 H31 hle32 R33 S
      have R5 := Sl.mono R5 hle32
      have R10 := Sl.mono R10 hle32
      have R15 := Sl.mono R15 hle32
      have R21 := Sl.mono R21 hle32
      refine WL.gyes rfl rfl hb27 ?_
      refine W.bslice (α := Str) [(str [120])] ([[120]] : List Str) S el22 rfl rfl rfl (by decide) (Go.Eng.encS ⟨rfl, rfl⟩ enc0) ?_
      intro u34 w35 H36 hle37 R38 S
      have R5 := Sl.mono R5 hle37
      have R10 := Sl.mono R10 hle37
      have R15 := Sl.mono R15 hle37
      have R21 := Sl.mono R21 hle37
      have R33 := Sl.mono R33 hle37
      refine WL.gyes rfl rfl hb27 ?_
      refine WL.valw (R.mv (v := u1) rfl) ?_
      refine WL.gyes rfl rfl hb27 ?_
      obtain ⟨r39, hr39, hg28⟩ := bindE hg28
      refine W.call S rfl (vary_Snapshot_ok S.holds ([[120]] : List Str) ([(⟨[65, 99, 99, 101, 112, 116, 45, 76, 97, 110, 103, 117, 97, 103, 101], [101, 110, 44, 68, 69]⟩ : GField), (⟨[120], [97]⟩ : GField)] : List GField) R38 R5 hr39) ?_
      rintro v40 w41 H42 hle43 S R44
      have R5 := Sl.mono R5 hle43
      have R10 := Sl.mono R10 hle43
      have R15 := Sl.mono R15 hle43
      have R21 := Sl.mono R21 hle43
      have R33 := Sl.mono R33 hle43
      have R38 := Sl.mono R38 hle43
      refine WL.gyes rfl rfl hb27 ?_
      refine WL.valw (R.mv (v := u6) rfl) ?_
      refine WL.gyes rfl rfl hb27 ?_
      obtain ⟨r45, hr45, hg28⟩ := bindE hg28
      refine W.call S rfl (vary_Match_ok S.holds ([[120]] : List Str) r39 ([(⟨[97, 99, 99, 101, 112, 116, 45, 108, 97, 110, 103, 117, 97, 103, 101], [69, 78, 32, 44, 32, 100, 101]⟩ : GField), (⟨[120], [65]⟩ : GField)] : List GField) R33 R44 R10 hr45) ?_
      rintro v46 w47 H48 hle49 S rfl
      have R5 := Sl.mono R5 hle49
      have R10 := Sl.mono R10 hle49
      have R15 := Sl.mono R15 hle49
      have R21 := Sl.mono R21 hle49
      have R33 := Sl.mono R33 hle49
      have R38 := Sl.mono R38 hle49
      have R44 := Sl.mono R44 hle49
      refine WL.gyes rfl rfl hb27 ?_
      refine WL.valw (R.not rfl) ?_
      refine WL.valw (R.pickT rfl hb27 rfl) ?_
      exact WL.nil ⟨(congrArg boo (Option.some.inj hg28)), (by repeat (first | refine agree_upd rfl ?_ | refine agree_upds' rfl ?_ | exact agree_refl)), ⟨H48, (((hle32.trans hle37).trans hle43).trans hle49), (S.drop _ (.cons _ (.cons _ (.cons_cons _ (.cons_cons _ (.cons_cons _ .slnil))))))⟩⟩
    · replace hg28 := condF hg28 hb27
      refine WL.gno rfl rfl hb27 ?_
      refine WL.gno rfl rfl hb27 ?_
      refine WL.gno rfl rfl hb27 ?_
      refine WL.gno rfl rfl hb27 ?_
      refine WL.gno rfl rfl hb27 ?_
      refine WL.gno rfl rfl hb27 ?_
      refine WL.gno rfl rfl hb27 ?_
      refine WL.valw (R.pickF rfl hb27 rfl) ?_
      exact WL.nil ⟨(congrArg boo (Option.some.inj hg28)), (by repeat (first | refine agree_upd rfl ?_ | refine agree_upds' rfl ?_ | exact agree_refl)), ⟨H25, (Hp.le.refl _), S⟩⟩
  · intro us w52 ⟨H51, hle53, S⟩
    have R5 := Sl.mono R5 hle53
    have R10 := Sl.mono R10 hle53
    have R15 := Sl.mono R15 hle53
    have R21 := Sl.mono R21 hle53
    refine WL.valw (R.as (v := (boo b50)) rfl) ?_
    refine WL.nil ?_
    obtain rfl := Option.some.inj h
    refine WP.ret (Out.one rfl S rfl ?_)
    exact rfl
set_option maxRecDepth 10000 in
set_option maxHeartbeats 4000000 in
theorem law19_VaryValues_ok {w0 : World} {H0 : Hp} (hw : Holds w0 H0) (p_names : (List Str)) (p_snapshot : (List Str)) (p_l : (List GField)) {vp_names : Value} {vp_snapshot : Value} {vp_l : Value} (Rp_names : Sl (α := Str) H0 vp_names p_names) (Rp_snapshot : Sl (α := Str) H0 vp_snapshot p_snapshot) (Rp_l : Sl (α := GField) H0 vp_l p_l) {r : Bool} (h : law19_VaryValues p_names p_snapshot p_l = some r) :
    Con Tryd.prog 3 [vp_names, vp_snapshot, vp_l] w0 H0 (fun H' v => v = (boo r)) := by
  refine Con.mk (N := 61) Tryd.func3 rfl rfl (by kernel_rfl) rfl ?_
  have S := St.start hw
  refine WP.seq ?_
  refine WP.region ?_
  refine WL.valw (R.as (v := (boo false)) rfl) ?_
  refine WL.nil ?_
  refine WP.seq ?_
  refine WP.seq ?_
  refine WP.region ?_
  refine WL.valw (R.mv (v := vp_names) rfl) ?_
  obtain ⟨r1, hr1, h⟩ := bindE h
  refine W.call S rfl (keep_Strings_ok S.holds p_names Rp_names hr1) ?_
  rintro v2 w3 H4 hle5 S rfl
  have Rp_names := Sl.mono Rp_names hle5
  have Rp_snapshot := Sl.mono Rp_snapshot hle5
  have Rp_l := Sl.mono Rp_l hle5
  refine WL.valw (R.not rfl) ?_
  refine WL.valw (R.mv (v := (boo (!r1))) rfl) ?_
  obtain ⟨b13, hg7, h⟩ := bindE h
  refine WL.grpw 4 [12, 13, 14] 15 (boo b13) (fun w => ∃ H' : Hp, H4.le H' ∧ St w0 H0 w H' []) ?_ ?_
  · rcases boolE (!r1) with hb6 | hb6
    · replace hg7 := condT hg7 hb6
      refine WL.gno rfl rfl hb6 ?_
      refine WL.gno rfl rfl hb6 ?_
      refine WL.gno rfl rfl hb6 ?_
      refine WL.valw (R.pickT rfl hb6 rfl) ?_
      exact WL.nil ⟨(congrArg boo (Option.some.inj hg7)), (by repeat (first | refine agree_upd rfl ?_ | refine agree_upds' rfl ?_ | exact agree_refl)), ⟨H4, (Hp.le.refl _), S⟩⟩
    · replace hg7 := condF hg7 hb6
      refine WL.gyes rfl rfl hb6 ?_
      refine WL.valw (R.mv (v := vp_snapshot) rfl) ?_
      refine WL.gyes rfl rfl hb6 ?_
      obtain ⟨r8, hr8, hg7⟩ := bindE hg7
      refine W.call S rfl (keep_Strings_ok S.holds p_snapshot Rp_snapshot hr8) ?_
      rintro v9 w10 H11 hle12 S rfl
      have Rp_names := Sl.mono Rp_names hle12
      have Rp_snapshot := Sl.mono Rp_snapshot hle12
      have Rp_l := Sl.mono Rp_l hle12
      refine WL.gyes rfl rfl hb6 ?_
      refine WL.valw (R.not rfl) ?_
      refine WL.valw (R.pickF rfl hb6 rfl) ?_
      exact WL.nil ⟨(congrArg boo (Option.some.inj hg7)), (by repeat (first | refine agree_upd rfl ?_ | refine agree_upds' rfl ?_ | exact agree_refl)), ⟨H11, hle12, S⟩⟩
  · intro us w15 ⟨H14, hle16, S⟩
    have Rp_names := Sl.mono Rp_names hle16
    have Rp_snapshot := Sl.mono Rp_snapshot hle16
    have Rp_l := Sl.mono Rp_l hle16
    refine WL.valw (R.mv (v := (boo b13)) rfl) ?_
    obtain ⟨b24, hg18, h⟩ := bindE h
    refine WL.grpw 4 [17, 18, 19] 20 (boo b24) (fun w => ∃ H' : Hp, H14.le H' ∧ St w0 H0 w H' []) ?_ ?_
    · rcases boolE b13 with hb17 | hb17
      · replace hg18 := condT hg18 hb17
        refine WL.gno rfl rfl hb17 ?_
        refine WL.gno rfl rfl hb17 ?_
        refine WL.gno rfl rfl hb17 ?_
        refine WL.valw (R.pickT rfl hb17 rfl) ?_
        exact WL.nil ⟨(congrArg boo (Option.some.inj hg18)), (by repeat (first | refine agree_upd rfl ?_ | refine agree_upds' rfl ?_ | exact agree_refl)), ⟨H14, (Hp.le.refl _), S⟩⟩
      · replace hg18 := condF hg18 hb17
        refine WL.gyes rfl rfl hb17 ?_
        refine WL.valw (R.mv (v := vp_l) rfl) ?_
        refine WL.gyes rfl rfl hb17 ?_
        obtain ⟨r19, hr19, hg18⟩ := bindE hg18
        refine W.call S rfl (keep_Fields_ok S.holds p_l Rp_l hr19) ?_
        rintro v20 w21 H22 hle23 S rfl
        have Rp_names := Sl.mono Rp_names hle23
        have Rp_snapshot := Sl.mono Rp_snapshot hle23
        have Rp_l := Sl.mono Rp_l hle23
        refine WL.gyes rfl rfl hb17 ?_
        refine WL.valw (R.not rfl) ?_
        refine WL.valw (R.pickF rfl hb17 rfl) ?_
        exact WL.nil ⟨(congrArg boo (Option.some.inj hg18)), (by repeat (first | refine agree_upd rfl ?_ | refine agree_upds' rfl ?_ | exact agree_refl)), ⟨H22, hle23, S⟩⟩
    · intro us w26 ⟨H25, hle27, S⟩
      have Rp_names := Sl.mono Rp_names hle27
      have Rp_snapshot := Sl.mono Rp_snapshot hle27
      have Rp_l := Sl.mono Rp_l hle27
      refine WL.nil ?_
      rcases condE h with ⟨hc28, h⟩ | ⟨hc28, h⟩
      · refine WP.condT rfl hc28 ?_
        refine WP.seq ?_
        refine WP.region ?_
        refine WL.valw (R.as (v := (boo true)) rfl) ?_
        refine WL.nil ?_
        obtain rfl := Option.some.inj h
        refine WP.ret (Out.one rfl S rfl ?_)
        exact rfl
      · refine WP.condF rfl hc28 ?_
        refine WP.skip ?_
        refine WP.seq ?_
        refine WP.seq ?_
        refine WP.region ?_
        refine WL.valw (R.as (v := (int 0)) rfl) ?_
        refine WL.nil ?_
        obtain ⟨r42, hr43, h⟩ := bindE h
        refine WP.cut (fun f w => match r42 with | .inl _ => ∃ (H35 : Hp), f 0 = vp_names ∧ f 1 = vp_snapshot ∧ f 2 = vp_l ∧ Sl (α := Str) H35 vp_names p_names ∧ Sl (α := Str) H35 vp_snapshot p_snapshot ∧ Sl (α := GField) H35 vp_l p_l ∧ St w0 H0 w H35 [] | .inr _ => False) ?_ ?_
        · refine WP.block ?_
          refine WP.loopM (law19_VaryValues_L0 p_names p_l) (fun s f w => match s with | i_33 => ∃ (H29 : Hp), f 0 = vp_names ∧ f 1 = vp_snapshot ∧ f 2 = vp_l ∧ f 7 = (int i_33) ∧ Sl (α := Str) H29 vp_names p_names ∧ Sl (α := Str) H29 vp_snapshot p_snapshot ∧ Sl (α := GField) H29 vp_l p_l ∧ St w0 H0 w H29 []) 0 r42 hr43 ?_ ?_
          · exact ⟨H25, rfl, rfl, rfl, rfl, Rp_names, Rp_snapshot, Rp_l, S⟩
          · intro i_33 f w hI y39 hy40 hy41
            obtain ⟨H29, h30, h31, h32, h34, Rp_names, Rp_snapshot, Rp_l, S⟩ := hI
            refine WP.seq ?_
            refine WP.seq ?_
            refine WP.region ?_
            refine WL.valw (R.mv (v := (int i_33)) h34) ?_
            refine WL.valw (R.mv (v := vp_names) h30) ?_
            refine WL.valw (R.lenL (α := Str) (xs := p_names) (H := H29) Rp_names rfl Tryd.underlying22) ?_
            refine WL.valw (R.lss rfl rfl) ?_
            refine WL.nil ?_
            rcases condE hy40 with ⟨hc44, hy40⟩ | ⟨hc44, hy40⟩
            · refine WP.condT rfl hc44 ?_
              refine WP.skip ?_
              refine WP.seq ?_
              refine WP.block ?_
              refine WP.seq ?_
              refine WP.quiet S (by kernel_rfl) (by kernel_rfl) ?_
              refine WQ.val (fun _ _ => (R.mv (v := vp_names) h30)) ?_
              refine WQ.val (fun _ _ => (R.mv (v := (int i_33)) h34)) ?_
              obtain ⟨x48, hx48, hy40⟩ := bindE hy40
              refine WQ.idx (α := Str) Rp_names rfl rfl el22 hx48 ?_
              rintro a49 _ hA50 rfl
              refine WQ.val (fun w hw => by obtain ⟨_, hq, S⟩ := hw; exact (R.loadH (v := (str x48)) S rfl (At.mono hA50 hq (by simp)) lay9 rfl)) ?_
              refine WQ.val (fun _ _ => (R.mv (v := vp_l) h32)) ?_
              obtain ⟨r51, hr51, hy40⟩ := bindE hy40
              refine WQ.call (v := (str r51)) rfl (fun w H' hq S => vary_Value_ok S.holds x48 p_l (Sl.mono Rp_l hq) hr51) ?_
              refine WQ.val (fun _ _ => (R.mv (v := vp_names) h30)) ?_
              refine WQ.val (fun _ _ => (R.mv (v := (int i_33)) h34)) ?_
              obtain ⟨x56, hx56, hy40⟩ := bindE hy40
              refine WQ.idx (α := Str) Rp_names rfl rfl el22 hx56 ?_
              rintro a57 _ hA58 rfl
              refine WQ.val (fun w hw => by obtain ⟨_, hq, S⟩ := hw; exact (R.loadH (v := (str x56)) S rfl (At.mono hA58 hq (by simp)) lay9 rfl)) ?_
              refine WQ.val (fun _ _ => (R.mv (v := vp_l) h32)) ?_
              obtain ⟨r59, hr59, hy40⟩ := bindE hy40
              refine WQ.call (v := (str r59)) rfl (fun w H' hq S => ref19_VaryValue_ok S.holds x56 p_l (Sl.mono Rp_l hq) hr59) ?_
              refine WQ.val (fun _ _ => (R.neqS (a := r51) (b := r59) rfl rfl)) ?_
              refine WQ.nil ?_
              intro w45 H46 hle47 S
              have Rp_names := Sl.mono Rp_names hle47
              have Rp_snapshot := Sl.mono Rp_snapshot hle47
              have Rp_l := Sl.mono Rp_l hle47
              have hA50 := At.mono hA50 hle47 (by simp)
              have hA58 := At.mono hA58 hle47 (by simp)
              rcases condE hy40 with ⟨hc64, hy40⟩ | ⟨hc64, hy40⟩
              · refine WP.condT rfl hc64 ?_
                refine WP.seq ?_
                refine WP.region ?_
                refine WL.valw (R.as (v := (boo false)) rfl) ?_
                refine WL.nil ?_
                obtain rfl := Option.some.inj hy40
                obtain rfl := hy41
                obtain rfl := Option.some.inj h
                refine WP.ret (Out.one rfl S rfl ?_)
                exact rfl
              · refine WP.condF rfl hc64 ?_
                refine WP.skip ?_
                refine WP.region ?_
                refine WL.valw (R.mv (v := (int i_33)) h34) ?_
                refine WL.valw (R.add rfl rfl) ?_
                refine WL.valw (R.as (v := (int (wr (i_33 + 1)))) rfl) ?_
                refine WL.nil ?_
                obtain rfl := Option.some.inj hy40
                exact ⟨rfl, ⟨H46, h30, h31, h32, rfl, Rp_names, Rp_snapshot, Rp_l, S⟩⟩
            · refine WP.condF rfl hc44 ?_
              refine WP.exit ?_
              obtain rfl := Option.some.inj hy40
              obtain rfl := hy41
              exact ⟨H29, h30, h31, h32, Rp_names, Rp_snapshot, Rp_l, S⟩
        · intro f w hM
          rcases r42 with _ | e
          · obtain ⟨H35, h36, h37, h38, Rp_names, Rp_snapshot, Rp_l, S⟩ := hM
            refine WP.seq ?_
            refine WP.region ?_
            refine WL.valw (R.mv (v := vp_names) h36) ?_
            refine WL.valw (R.mv (v := vp_l) h38) ?_
            obtain ⟨r65, hr65, h⟩ := bindE h
            refine W.call S rfl (vary_Snapshot_ok S.holds p_names p_l Rp_names Rp_l hr65) ?_
            rintro v66 w67 H68 hle69 S R70
            have Rp_names := Sl.mono Rp_names hle69
            have Rp_snapshot := Sl.mono Rp_snapshot hle69
            have Rp_l := Sl.mono Rp_l hle69
            refine WL.valw (R.mv (v := vp_names) h36) ?_
            refine WL.valw (R.mv (v := vp_l) h38) ?_
            obtain ⟨r71, hr71, h⟩ := bindE h
            refine W.call S rfl (ref19_Snapshot_ok S.holds p_names p_l Rp_names Rp_l hr71) ?_
            rintro v72 w73 H74 hle75 S R76
            have Rp_names := Sl.mono Rp_names hle75
            have Rp_snapshot := Sl.mono Rp_snapshot hle75
            have Rp_l := Sl.mono Rp_l hle75
            have R70 := Sl.mono R70 hle75
            obtain ⟨r77, hr77, h⟩ := bindE h
            refine W.call S rfl (keep_SameStrings_ok S.holds r65 r71 R70 R76 hr77) ?_
            rintro v78 w79 H80 hle81 S rfl
            have Rp_names := Sl.mono Rp_names hle81
            have Rp_snapshot := Sl.mono Rp_snapshot hle81
            have Rp_l := Sl.mono Rp_l hle81
            have R70 := Sl.mono R70 hle81
            have R76 := Sl.mono R76 hle81
            refine WL.valw (R.mv (v := (boo r77)) rfl) ?_
            obtain ⟨b94, hg83, h⟩ := bindE h
            refine WL.grpw 10 [48, 49, 50, 51, 52, 53, 54, 55, 56] 57 (boo b94) (fun w => ∃ H' : Hp, H80.le H' ∧ St w0 H0 w H' []) ?_ ?_
            · rcases boolE r77 with hb82 | hb82
              · replace hg83 := condT hg83 hb82
                refine WL.gyes rfl rfl hb82 ?_
                refine WL.valw (R.mv (v := vp_names) h36) ?_
                refine WL.gyes rfl rfl hb82 ?_
                refine WL.valw (R.mv (v := vp_snapshot) h37) ?_
                refine WL.gyes rfl rfl hb82 ?_
                refine WL.valw (R.mv (v := vp_l) h38) ?_
                refine WL.gyes rfl rfl hb82 ?_
                obtain ⟨r84, hr84, hg83⟩ := bindE hg83
                refine W.call S rfl (vary_Match_ok S.holds p_names p_snapshot p_l Rp_names Rp_snapshot Rp_l hr84) ?_
                rintro v85 w86 H87 hle88 S rfl
                have Rp_names := Sl.mono Rp_names hle88
                have Rp_snapshot := Sl.mono Rp_snapshot hle88
                have Rp_l := Sl.mono Rp_l hle88
                have R70 := Sl.mono R70 hle88
                have R76 := Sl.mono R76 hle88
                refine WL.gyes rfl rfl hb82 ?_
                refine WL.valw (R.mv (v := vp_names) h36) ?_
                refine WL.gyes rfl rfl hb82 ?_
                refine WL.valw (R.mv (v := vp_snapshot) h37) ?_
                refine WL.gyes rfl rfl hb82 ?_
                refine WL.valw (R.mv (v := vp_l) h38) ?_
                refine WL.gyes rfl rfl hb82 ?_
                obtain ⟨r89, hr89, hg83⟩ := bindE hg83
                refine W.call S rfl (ref19_VaryMatch_ok S.holds p_names p_snapshot p_l Rp_names Rp_snapshot Rp_l hr89) ?_
                rintro v90 w91 H92 hle93 S rfl
                have Rp_names := Sl.mono Rp_names hle93
                have Rp_snapshot := Sl.mono Rp_snapshot hle93
                have Rp_l := Sl.mono Rp_l hle93
                have R70 := Sl.mono R70 hle93
                have R76 := Sl.mono R76 hle93
                refine WL.gyes rfl rfl hb82 ?_
                refine WL.valw (R.eqlB rfl rfl Tryd.underlying4) ?_
                refine WL.valw (R.pickT rfl hb82 rfl) ?_
                exact WL.nil ⟨(congrArg boo (Option.some.inj hg83)), (by repeat (first | refine agree_upd rfl ?_ | refine agree_upds' rfl ?_ | exact agree_refl)), ⟨H92, (hle88.trans hle93), S⟩⟩
              · replace hg83 := condF hg83 hb82
                refine WL.gno rfl rfl hb82 ?_
                refine WL.gno rfl rfl hb82 ?_
                refine WL.gno rfl rfl hb82 ?_
                refine WL.gno rfl rfl hb82 ?_
                refine WL.gno rfl rfl hb82 ?_
                refine WL.gno rfl rfl hb82 ?_
                refine WL.gno rfl rfl hb82 ?_
                refine WL.gno rfl rfl hb82 ?_
                refine WL.gno rfl rfl hb82 ?_
                refine WL.valw (R.pickF rfl hb82 rfl) ?_
                exact WL.nil ⟨(congrArg boo (Option.some.inj hg83)), (by repeat (first | refine agree_upd rfl ?_ | refine agree_upds' rfl ?_ | exact agree_refl)), ⟨H80, (Hp.le.refl _), S⟩⟩
            · intro us w96 ⟨H95, hle97, S⟩
              have Rp_names := Sl.mono Rp_names hle97
              have Rp_snapshot := Sl.mono Rp_snapshot hle97
              have Rp_l := Sl.mono Rp_l hle97
              have R70 := Sl.mono R70 hle97
              have R76 := Sl.mono R76 hle97
              refine WL.valw (R.mv (v := (boo b94)) rfl) ?_
              obtain ⟨b105, hg99, h⟩ := bindE h
              refine WL.grpw 2 [59] 60 (boo b105) (fun w => ∃ H' : Hp, H95.le H' ∧ St w0 H0 w H' []) ?_ ?_
              · rcases boolE b94 with hb98 | hb98
                · replace hg99 := condT hg99 hb98
                  refine WL.gyes rfl rfl hb98 ?_
                  obtain ⟨r100, hr100, hg99⟩ := bindE hg99
                  refine W.call S rfl (law19_awake_ok S.holds  hr100) ?_
                  rintro v101 w102 H103 hle104 S rfl
                  have Rp_names := Sl.mono Rp_names hle104
                  have Rp_snapshot := Sl.mono Rp_snapshot hle104
                  have Rp_l := Sl.mono Rp_l hle104
                  have R70 := Sl.mono R70 hle104
                  have R76 := Sl.mono R76 hle104
                  refine WL.valw (R.pickT rfl hb98 rfl) ?_
                  exact WL.nil ⟨(congrArg boo (Option.some.inj hg99)), (by repeat (first | refine agree_upd rfl ?_ | refine agree_upds' rfl ?_ | exact agree_refl)), ⟨H103, hle104, S⟩⟩
                · replace hg99 := condF hg99 hb98
                  refine WL.gno rfl rfl hb98 ?_
                  refine WL.valw (R.pickF rfl hb98 rfl) ?_
                  exact WL.nil ⟨(congrArg boo (Option.some.inj hg99)), (by repeat (first | refine agree_upd rfl ?_ | refine agree_upds' rfl ?_ | exact agree_refl)), ⟨H95, (Hp.le.refl _), S⟩⟩
              · intro us w107 ⟨H106, hle108, S⟩
                have Rp_names := Sl.mono Rp_names hle108
                have Rp_snapshot := Sl.mono Rp_snapshot hle108
                have Rp_l := Sl.mono Rp_l hle108
                have R70 := Sl.mono R70 hle108
                have R76 := Sl.mono R76 hle108
                refine WL.valw (R.as (v := (boo b105)) rfl) ?_
                refine WL.nil ?_
                obtain rfl := Option.some.inj h
                refine WP.ret (Out.one rfl S rfl ?_)
                exact rfl
          · exact hM.elim
set_option maxRecDepth 10000 in
set_option maxHeartbeats 4000000 in
theorem ref01_Remove_ok {w0 : World} {H0 : Hp} (hw : Holds w0 H0) (p_l : (List GField)) (p_name : Str) {vp_l : Value} (Rp_l : Sl (α := GField) H0 vp_l p_l) {r : (List GField)} (h : ref01_Remove p_l p_name = some r) :
    Con Tryd.prog 18 [vp_l, (str p_name)] w0 H0 (fun H' v => Sl (α := GField) H' v r) := by
  refine Con.mk (N := 29) Tryd.func18 rfl rfl (by kernel_rfl) rfl ?_
  have S := St.start hw
  refine WP.seq ?_
  refine WP.region ?_
  refine WL.valw (R.as (v := (.slice none 0 0)) rfl) ?_
  refine WL.nil ?_
  refine WP.seq ?_
  refine WP.region ?_
  refine WL.valw (R.as (v := (.slice none 0 0)) rfl) ?_
  refine WL.nil ?_
  refine WP.seq ?_
  refine WP.seq ?_
  refine WP.region ?_
  refine WL.valw (R.as (v := (int 0)) rfl) ?_
  refine WL.nil ?_
  have S := S.addNil 49 2
  obtain ⟨out_11, hr19, h⟩ := bindE h
  refine WP.cut (fun f w => ∃ (H10 : Hp) (v12 : Value), f 5 = v12 ∧ Sl (α := GField) H10 v12 out_11 ∧ St w0 H0 w H10 [.row v12 49 2 out_11.length]) ?_ ?_
  · refine WP.block ?_
    refine WP.loopM (ref01_Remove_L0 p_l p_name) (fun s f w => match s with | (out_4, i_8) => ∃ (H1 : Hp) (v5 : Value), f 0 = vp_l ∧ f 1 = (str p_name) ∧ f 5 = v5 ∧ f 6 = (int i_8) ∧ Sl (α := GField) H1 vp_l p_l ∧ Sl (α := GField) H1 v5 out_4 ∧ St w0 H0 w H1 [.row v5 49 2 out_4.length]) (([] : List GField), 0) out_11 hr19 ?_ ?_
    · exact ⟨H0, .slice none 0 0, rfl, rfl, rfl, rfl, Rp_l, Sl.nil, S⟩
    · intro s f w hI y15 hy16 hy17
      obtain ⟨out_4, i_8⟩ := s
      obtain ⟨H1, v5, h2, h3, h7, h9, Rp_l, R6, S⟩ := hI
      refine WP.seq ?_
      refine WP.seq ?_
      refine WP.region ?_
      refine WL.valw (R.mv (v := (int i_8)) h9) ?_
      refine WL.valw (R.mv (v := vp_l) h2) ?_
      refine WL.valw (R.lenL (α := GField) (xs := p_l) (H := H1) Rp_l rfl Tryd.underlying23) ?_
      refine WL.valw (R.lss rfl rfl) ?_
      refine WL.nil ?_
      rcases condE hy16 with ⟨hc20, hy16⟩ | ⟨hc20, hy16⟩
      · refine WP.condT rfl hc20 ?_
        refine WP.skip ?_
        refine WP.seq ?_
        refine WP.block ?_
        refine WP.seq ?_
        refine WP.region ?_
        refine WL.valw (R.mv (v := vp_l) h2) ?_
        refine WL.valw (R.mv (v := (int i_8)) h9) ?_
        obtain ⟨x21, hx21, hy16⟩ := bindE hy16
        refine W.idx (α := GField) Rp_l rfl rfl el23 hx21 ?_
        rintro a22 _ hA23 rfl
        refine WL.valw (R.field rfl fld49_0) ?_
        have hA24 := At.add hA23 0 (by simp)
        refine WL.valw (R.loadH (v := (str x21.fName)) S rfl hA24 lay9 rfl) ?_
        refine WL.valw (R.mv (v := (str p_name)) h3) ?_
        obtain ⟨r25, hr25, hy16⟩ := bindE hy16
        refine W.call S rfl (ref01_Fold_ok S.holds x21.fName p_name hr25) ?_
        rintro v26 w27 H28 hle29 S rfl
        have Rp_l := Sl.mono Rp_l hle29
        have R6 := Sl.mono R6 hle29
        have hA23 := At.mono hA23 hle29 (by simp)
        have hA24 := At.mono hA24 hle29 (by simp)
        refine WL.valw (R.not rfl) ?_
        refine WL.nil ?_
        rcases condE hy16 with ⟨hc30, hy16⟩ | ⟨hc30, hy16⟩
        · refine WP.condT rfl hc30 ?_
          refine WP.region ?_
          refine WL.valw (R.mv (v := v5) h7) ?_
          refine WL.valw (R.mv (v := vp_l) h2) ?_
          refine WL.valw (R.mv (v := (int i_8)) h9) ?_
          obtain ⟨x31, hx31, hy16⟩ := bindE hy16
          refine W.idx (α := GField) Rp_l rfl rfl el23 hx31 ?_
          rintro a32 _ hA33 rfl
          refine WL.valw (R.loadHN (vs := [(str x31.fName), (str x31.fValue)]) S rfl hA33 lay49 rfl rfl) ?_
          refine W.bslice (α := GField) [(agg [(str x31.fName), (str x31.fValue)])] ([x31] : List GField) S el23 rfl rfl rfl (by decide) (Go.Eng.encS ⟨rfl, rfl⟩ enc0) ?_
          intro u34 w35 H36 hle37 R38 S
          have Rp_l := Sl.mono Rp_l hle37
          have R6 := Sl.mono R6 hle37
          have hA23 := At.mono hA23 hle37 (by simp)
          have hA24 := At.mono hA24 hle37 (by simp)
          have hA33 := At.mono hA33 hle37 (by simp)
          obtain ⟨l39, hl39, hy16⟩ := bindE hy16
          refine W.app (α := GField) (i := 1) S el23 rfl rfl rfl R6 R38 hl39 ?_
          intro v40 w41 H42 hle43 R44 S
          have Rp_l := Sl.mono Rp_l hle43
          have R6 := Sl.mono R6 hle43
          have hA23 := At.mono hA23 hle43 (by simp)
          have hA24 := At.mono hA24 hle43 (by simp)
          have hA33 := At.mono hA33 hle43 (by simp)
          have R38 := Sl.mono R38 hle43
          refine WL.valw (R.as (v := v40) rfl) ?_
          refine WL.nil ?_
          refine WP.region ?_
          refine WL.valw (R.mv (v := (int i_8)) h9) ?_
          refine WL.valw (R.add rfl rfl) ?_
          refine WL.valw (R.as (v := (int (wr (i_8 + 1)))) rfl) ?_
          refine WL.nil ?_
          obtain rfl := Option.some.inj hy16
          exact ⟨rfl, ⟨H42, v40, h2, h3, rfl, rfl, Rp_l, R44, (S.drop _ (.cons _ (.cons_cons _ .slnil)))⟩⟩
        · refine WP.condF rfl hc30 ?_
          refine WP.skip ?_
          refine WP.region ?_
          refine WL.valw (R.mv (v := (int i_8)) h9) ?_
          refine WL.valw (R.add rfl rfl) ?_
          refine WL.valw (R.as (v := (int (wr (i_8 + 1)))) rfl) ?_
          refine WL.nil ?_
          obtain rfl := Option.some.inj hy16
          exact ⟨rfl, ⟨H28, v5, h2, h3, h7, rfl, Rp_l, R6, S⟩⟩
      · refine WP.condF rfl hc20 ?_
        refine WP.exit ?_
        obtain rfl := Option.some.inj hy16
        obtain rfl := hy17
        exact ⟨H1, v5, h7, R6, S⟩
  · rintro f w ⟨H10, v12, h14, R13, S⟩
    refine WP.seq ?_
    refine WP.region ?_
    refine WL.valw (R.mv (v := v12) h14) ?_
    refine WL.valw (R.as (v := v12) rfl) ?_
    refine WL.nil ?_
    obtain rfl := Option.some.inj h
    refine WP.ret (Out.one rfl S rfl ?_)
    exact R13
set_option maxRecDepth 10000 in
set_option maxHeartbeats 4000000 in
theorem law19_VaryItself_ok {w0 : World} {H0 : Hp} (hw : Holds w0 H0) (p_names : (List Str)) (p_l : (List GField)) (p_at : Int) {vp_names : Value} {vp_l : Value} (Rp_names : Sl (α := Str) H0 vp_names p_names) (Rp_l : Sl (α := GField) H0 vp_l p_l) {r : Bool} (h : law19_VaryItself p_names p_l p_at = some r) :
    Con Tryd.prog 4 [vp_names, vp_l, (int p_at)] w0 H0 (fun H' v => v = (boo r)) := by
  refine Con.mk (N := 55) Tryd.func4 rfl rfl (by kernel_rfl) rfl ?_
  have S := St.start hw
  refine WP.seq ?_
  refine WP.region ?_
  refine WL.valw (R.as (v := (boo false)) rfl) ?_
  refine WL.nil ?_
  refine WP.seq ?_
  refine WP.seq ?_
  refine WP.region ?_
  refine WL.valw (R.mv (v := vp_names) rfl) ?_
  obtain ⟨r1, hr1, h⟩ := bindE h
  refine W.call S rfl (keep_Strings_ok S.holds p_names Rp_names hr1) ?_
  rintro v2 w3 H4 hle5 S rfl
  have Rp_names := Sl.mono Rp_names hle5
  have Rp_l := Sl.mono Rp_l hle5
  refine WL.valw (R.not rfl) ?_
  refine WL.valw (R.mv (v := (boo (!r1))) rfl) ?_
  obtain ⟨b13, hg7, h⟩ := bindE h
  refine WL.grpw 4 [13, 14, 15] 16 (boo b13) (fun w => ∃ H' : Hp, H4.le H' ∧ St w0 H0 w H' []) ?_ ?_
  · rcases boolE (!r1) with hb6 | hb6
    · replace hg7 := condT hg7 hb6
      refine WL.gno rfl rfl hb6 ?_
      refine WL.gno rfl rfl hb6 ?_
      refine WL.gno rfl rfl hb6 ?_
      refine WL.valw (R.pickT rfl hb6 rfl) ?_
      exact WL.nil ⟨(congrArg boo (Option.some.inj hg7)), (by repeat (first | refine agree_upd rfl ?_ | refine agree_upds' rfl ?_ | exact agree_refl)), ⟨H4, (Hp.le.refl _), S⟩⟩
    · replace hg7 := condF hg7 hb6
      refine WL.gyes rfl rfl hb6 ?_
      refine WL.valw (R.mv (v := vp_l) rfl) ?_
      refine WL.gyes rfl rfl hb6 ?_
      obtain ⟨r8, hr8, hg7⟩ := bindE hg7
      refine W.call S rfl (keep_Fields_ok S.holds p_l Rp_l hr8) ?_
      rintro v9 w10 H11 hle12 S rfl
      have Rp_names := Sl.mono Rp_names hle12
      have Rp_l := Sl.mono Rp_l hle12
      refine WL.gyes rfl rfl hb6 ?_
      refine WL.valw (R.not rfl) ?_
      refine WL.valw (R.pickF rfl hb6 rfl) ?_
      exact WL.nil ⟨(congrArg boo (Option.some.inj hg7)), (by repeat (first | refine agree_upd rfl ?_ | refine agree_upds' rfl ?_ | exact agree_refl)), ⟨H11, hle12, S⟩⟩
  · intro us w15 ⟨H14, hle16, S⟩
    have Rp_names := Sl.mono Rp_names hle16
    have Rp_l := Sl.mono Rp_l hle16
    refine WL.valw (R.mv (v := (boo b13)) rfl) ?_
    refine WL.grp 3 [18, 19] 20 (boo (b13 || (decide (p_at < 0)))) ?_ ?_
    · rcases boolE b13 with hb17 | hb17
      · refine WL.gno rfl rfl hb17 ?_
        refine WL.gno rfl rfl hb17 ?_
        refine WL.valw (R.pickT rfl hb17 rfl) ?_
        exact WL.nil ⟨(orT hb17), (by repeat (first | refine agree_upd rfl ?_ | refine agree_upds' rfl ?_ | exact agree_refl)), rfl⟩
      · refine WL.gyes rfl rfl hb17 ?_
        refine WL.valw (R.mv (v := (int p_at)) rfl) ?_
        refine WL.gyes rfl rfl hb17 ?_
        refine WL.valw (R.lss rfl rfl) ?_
        refine WL.valw (R.pickF rfl hb17 rfl) ?_
        exact WL.nil ⟨(orF hb17), (by repeat (first | refine agree_upd rfl ?_ | refine agree_upds' rfl ?_ | exact agree_refl)), rfl⟩
    · intro us
      refine WL.valw (R.mv (v := (boo (b13 || (decide (p_at < 0))))) rfl) ?_
      refine WL.grp 5 [22, 23, 24, 25] 26 (boo ((b13 || (decide (p_at < 0))) || (decide ((p_names.length : Int) ≤ p_at)))) ?_ ?_
      · rcases boolE (b13 || (decide (p_at < 0))) with hb19 | hb19
        · refine WL.gno rfl rfl hb19 ?_
          refine WL.gno rfl rfl hb19 ?_
          refine WL.gno rfl rfl hb19 ?_
          refine WL.gno rfl rfl hb19 ?_
          refine WL.valw (R.pickT rfl hb19 rfl) ?_
          exact WL.nil ⟨(orT hb19), (by repeat (first | refine agree_upd rfl ?_ | refine agree_upds' rfl ?_ | exact agree_refl)), rfl⟩
        · refine WL.gyes rfl rfl hb19 ?_
          refine WL.valw (R.mv (v := (int p_at)) rfl) ?_
          refine WL.gyes rfl rfl hb19 ?_
          refine WL.valw (R.mv (v := vp_names) rfl) ?_
          refine WL.gyes rfl rfl hb19 ?_
          refine WL.valw (R.lenL (α := Str) (xs := p_names) (H := H14) Rp_names rfl Tryd.underlying22) ?_
          refine WL.gyes rfl rfl hb19 ?_
          refine WL.valw (R.geq rfl rfl) ?_
          refine WL.valw (R.pickF rfl hb19 rfl) ?_
          exact WL.nil ⟨(orF hb19), (by repeat (first | refine agree_upd rfl ?_ | refine agree_upds' rfl ?_ | exact agree_refl)), rfl⟩
      · intro us
        refine WL.nil ?_
        rcases condE h with ⟨hc21, h⟩ | ⟨hc21, h⟩
        · refine WP.condT rfl hc21 ?_
          refine WP.seq ?_
          refine WP.region ?_
          refine WL.valw (R.as (v := (boo true)) rfl) ?_
          refine WL.nil ?_
          obtain rfl := Option.some.inj h
          refine WP.ret (Out.one rfl S rfl ?_)
          exact rfl
        · refine WP.condF rfl hc21 ?_
          refine WP.skip ?_
          refine WP.seq ?_
          refine WP.region ?_
          refine WL.valw (R.mv (v := vp_names) rfl) ?_
          refine WL.valw (R.mv (v := vp_l) rfl) ?_
          obtain ⟨r22, hr22, h⟩ := bindE h
          refine W.call S rfl (vary_Snapshot_ok S.holds p_names p_l Rp_names Rp_l hr22) ?_
          rintro v23 w24 H25 hle26 S R27
          have Rp_names := Sl.mono Rp_names hle26
          have Rp_l := Sl.mono Rp_l hle26
          refine WL.valw (R.as (v := v23) rfl) ?_
          refine WL.nil ?_
          refine WP.seq ?_
          refine WP.region ?_
          refine WL.valw (R.mv (v := vp_l) rfl) ?_
          refine WL.valw (R.mv (v := vp_names) rfl) ?_
          refine WL.valw (R.mv (v := (int p_at)) rfl) ?_
          obtain ⟨x28, hx28, h⟩ := bindE h
          refine W.idx (α := Str) Rp_names rfl rfl el22 hx28 ?_
          rintro a29 _ hA30 rfl
          refine WL.valw (R.loadH (v := (str x28)) S rfl hA30 lay9 rfl) ?_
          obtain ⟨r31, hr31, h⟩ := bindE h
          refine W.call S rfl (ref01_Remove_ok S.holds p_l x28 Rp_l hr31) ?_
          rintro v32 w33 H34 hle35 S R36
          have Rp_names := Sl.mono Rp_names hle35
          have Rp_l := Sl.mono Rp_l hle35
          have R27 := Sl.mono R27 hle35
          have hA30 := At.mono hA30 hle35 (by simp)
          refine WL.valw (R.as (v := v32) rfl) ?_
          refine WL.nil ?_
          refine WP.seq ?_
          refine WP.region ?_
          refine WL.valw (R.mv (v := vp_names) rfl) ?_
          refine WL.valw (R.mv (v := v23) rfl) ?_
          refine WL.valw (R.mv (v := vp_l) rfl) ?_
          obtain ⟨r37, hr37, h⟩ := bindE h
          refine W.call S rfl (vary_Match_ok S.holds p_names r22 p_l Rp_names R27 Rp_l hr37) ?_
          rintro v38 w39 H40 hle41 S rfl
          have Rp_names := Sl.mono Rp_names hle41
          have Rp_l := Sl.mono Rp_l hle41
          have R27 := Sl.mono R27 hle41
          have hA30 := At.mono hA30 hle41 (by simp)
          have R36 := Sl.mono R36 hle41
          refine WL.valw (R.mv (v := (boo r37)) rfl) ?_
          obtain ⟨b49, hg43, h⟩ := bindE h
          refine WL.grpw 11 [41, 42, 43, 44, 45, 46, 47, 48, 49, 50] 51 (boo b49) (fun w => ∃ H' : Hp, H40.le H' ∧ St w0 H0 w H' []) ?_ ?_
          · rcases boolE r37 with hb42 | hb42
            · replace hg43 := condT hg43 hb42
              refine WL.gyes rfl rfl hb42 ?_
              refine WL.valw (R.mv (v := vp_names) rfl) ?_
              refine WL.gyes rfl rfl hb42 ?_
              refine WL.valw (R.mv (v := v23) rfl) ?_
              refine WL.gyes rfl rfl hb42 ?_
              refine WL.valw (R.mv (v := v32) rfl) ?_
              refine WL.gyes rfl rfl hb42 ?_
              obtain ⟨r44, hr44, hg43⟩ := bindE hg43
              refine W.call S rfl (vary_Match_ok S.holds p_names r22 r31 Rp_names R27 R36 hr44) ?_
              rintro v45 w46 H47 hle48 S rfl
              have Rp_names := Sl.mono Rp_names hle48
              have Rp_l := Sl.mono Rp_l hle48
              have R27 := Sl.mono R27 hle48
              have hA30 := At.mono hA30 hle48 (by simp)
              have R36 := Sl.mono R36 hle48
              refine WL.gyes rfl rfl hb42 ?_
              refine WL.valw (R.mv (v := v32) rfl) ?_
              refine WL.gyes rfl rfl hb42 ?_
              refine WL.valw (R.lenL (α := GField) (xs := r31) (H := H47) R36 rfl Tryd.underlying23) ?_
              refine WL.gyes rfl rfl hb42 ?_
              refine WL.valw (R.mv (v := vp_l) rfl) ?_
              refine WL.gyes rfl rfl hb42 ?_
              refine WL.valw (R.lenL (α := GField) (xs := p_l) (H := H47) Rp_l rfl Tryd.underlying23) ?_
              refine WL.gyes rfl rfl hb42 ?_
              refine WL.valw (R.eql rfl rfl) ?_
              refine WL.gyes rfl rfl hb42 ?_
              refine WL.valw (R.eqlB rfl rfl Tryd.underlying4) ?_
              refine WL.valw (R.pickT rfl hb42 rfl) ?_
              exact WL.nil ⟨(congrArg boo (Option.some.inj hg43)), (by repeat (first | refine agree_upd rfl ?_ | refine agree_upds' rfl ?_ | exact agree_refl)), ⟨H47, hle48, S⟩⟩
            · replace hg43 := condF hg43 hb42
              refine WL.gno rfl rfl hb42 ?_
              refine WL.gno rfl rfl hb42 ?_
              refine WL.gno rfl rfl hb42 ?_
              refine WL.gno rfl rfl hb42 ?_
              refine WL.gno rfl rfl hb42 ?_
              refine WL.gno rfl rfl hb42 ?_
              refine WL.gno rfl rfl hb42 ?_
              refine WL.gno rfl rfl hb42 ?_
              refine WL.gno rfl rfl hb42 ?_
              refine WL.gno rfl rfl hb42 ?_
              refine WL.valw (R.pickF rfl hb42 rfl) ?_
              exact WL.nil ⟨(congrArg boo (Option.some.inj hg43)), (by repeat (first | refine agree_upd rfl ?_ | refine agree_upds' rfl ?_ | exact agree_refl)), ⟨H40, (Hp.le.refl _), S⟩⟩
          · intro us w51 ⟨H50, hle52, S⟩
            have Rp_names := Sl.mono Rp_names hle52
            have Rp_l := Sl.mono Rp_l hle52
            have R27 := Sl.mono R27 hle52
            have hA30 := At.mono hA30 hle52 (by simp)
            have R36 := Sl.mono R36 hle52
            refine WL.valw (R.mv (v := (boo b49)) rfl) ?_
            obtain ⟨b60, hg54, h⟩ := bindE h
            refine WL.grpw 2 [53] 54 (boo b60) (fun w => ∃ H' : Hp, H50.le H' ∧ St w0 H0 w H' []) ?_ ?_
            · rcases boolE b49 with hb53 | hb53
              · replace hg54 := condT hg54 hb53
                refine WL.gyes rfl rfl hb53 ?_
                obtain ⟨r55, hr55, hg54⟩ := bindE hg54
                refine W.call S rfl (law19_awake_ok S.holds  hr55) ?_
                rintro v56 w57 H58 hle59 S rfl
                have Rp_names := Sl.mono Rp_names hle59
                have Rp_l := Sl.mono Rp_l hle59
                have R27 := Sl.mono R27 hle59
                have hA30 := At.mono hA30 hle59 (by simp)
                have R36 := Sl.mono R36 hle59
                refine WL.valw (R.pickT rfl hb53 rfl) ?_
                exact WL.nil ⟨(congrArg boo (Option.some.inj hg54)), (by repeat (first | refine agree_upd rfl ?_ | refine agree_upds' rfl ?_ | exact agree_refl)), ⟨H58, hle59, S⟩⟩
              · replace hg54 := condF hg54 hb53
                refine WL.gno rfl rfl hb53 ?_
                refine WL.valw (R.pickF rfl hb53 rfl) ?_
                exact WL.nil ⟨(congrArg boo (Option.some.inj hg54)), (by repeat (first | refine agree_upd rfl ?_ | refine agree_upds' rfl ?_ | exact agree_refl)), ⟨H50, (Hp.le.refl _), S⟩⟩
            · intro us w62 ⟨H61, hle63, S⟩
              have Rp_names := Sl.mono Rp_names hle63
              have Rp_l := Sl.mono Rp_l hle63
              have R27 := Sl.mono R27 hle63
              have hA30 := At.mono hA30 hle63 (by simp)
              have R36 := Sl.mono R36 hle63
              refine WL.valw (R.as (v := (boo b60)) rfl) ?_
              refine WL.nil ?_
              obtain rfl := Option.some.inj h
              refine WP.ret (Out.one rfl S rfl ?_)
              exact rfl
set_option maxRecDepth 10000 in
set_option maxHeartbeats 4000000 in
theorem ascii_part_ok {w0 : World} {H0 : Hp} (hw : Holds w0 H0) (p_c : UInt8) {r : Bool} (h : ascii_part p_c = some r) :
    Con Tryd.prog 70 [(byt p_c)] w0 H0 (fun H' v => v = (boo r)) := by
  refine Con.mk (N := 42) Tryd.func70 rfl rfl (by kernel_rfl) rfl ?_
  have S := St.start hw
  refine WP.seq ?_
  refine WP.region ?_
  refine WL.valw (R.as (v := (boo false)) rfl) ?_
  refine WL.nil ?_
  refine WP.seq ?_
  refine WP.seq ?_
  refine WP.region ?_
  refine WL.valw (R.mv (v := (byt p_c)) rfl) ?_
  refine WL.nil ?_
  obtain ⟨j4, hj3, h⟩ := bindE h
  refine WP.cut (fun f w => match j4 with | .inl _ => ∃ (H1 : Hp), f 0 = (byt p_c) ∧ St w0 H0 w H1 [] | .inr _ => False) ?_ ?_
  · refine WP.block ?_
    refine WP.seq ?_
    refine WP.seq ?_
    refine WP.region ?_
    refine WL.valw (R.eql8 (a := p_c) (b := 33) rfl rfl) ?_
    refine WL.valw (R.as (v := (boo (p_c == 33))) rfl) ?_
    refine WL.nil ?_
    obtain ⟨y_7, hj9, hj3⟩ := bindE hj3
    refine WP.cut (fun f w => ∃ (H5 : Hp), f 0 = (byt p_c) ∧ f 4 = (boo y_7) ∧ St w0 H0 w H5 []) ?_ ?_
    · rcases condE hj9 with ⟨hc11, hj9⟩ | ⟨hc11, hj9⟩
      · refine WP.condT rfl hc11 ?_
        refine WP.skip ?_
        obtain rfl := Option.some.inj hj9
        exact ⟨H0, rfl, rfl, S⟩
      · refine WP.condF rfl hc11 ?_
        refine WP.seq ?_
        refine WP.region ?_
        refine WL.valw (R.eql8 (a := p_c) (b := 35) rfl rfl) ?_
        refine WL.valw (R.as (v := (boo (p_c == 35))) rfl) ?_
        refine WL.nil ?_
        rcases condE hj9 with ⟨hc12, hj9⟩ | ⟨hc12, hj9⟩
        · refine WP.condT rfl hc12 ?_
          refine WP.skip ?_
          obtain rfl := Option.some.inj hj9
          exact ⟨H0, rfl, rfl, S⟩
        · refine WP.condF rfl hc12 ?_
          refine WP.seq ?_
          refine WP.region ?_
          refine WL.valw (R.eql8 (a := p_c) (b := 36) rfl rfl) ?_
          refine WL.valw (R.as (v := (boo (p_c == 36))) rfl) ?_
          refine WL.nil ?_
          rcases condE hj9 with ⟨hc13, hj9⟩ | ⟨hc13, hj9⟩
          · refine WP.condT rfl hc13 ?_
            refine WP.skip ?_
            obtain rfl := Option.some.inj hj9
            exact ⟨H0, rfl, rfl, S⟩
          · refine WP.condF rfl hc13 ?_
            refine WP.seq ?_
            refine WP.region ?_
            refine WL.valw (R.eql8 (a := p_c) (b := 37) rfl rfl) ?_
            refine WL.valw (R.as (v := (boo (p_c == 37))) rfl) ?_
            refine WL.nil ?_
            rcases condE hj9 with ⟨hc14, hj9⟩ | ⟨hc14, hj9⟩
            · refine WP.condT rfl hc14 ?_
              refine WP.skip ?_
              obtain rfl := Option.some.inj hj9
              exact ⟨H0, rfl, rfl, S⟩
            · refine WP.condF rfl hc14 ?_
              refine WP.seq ?_
              refine WP.region ?_
              refine WL.valw (R.eql8 (a := p_c) (b := 38) rfl rfl) ?_
              refine WL.valw (R.as (v := (boo (p_c == 38))) rfl) ?_
              refine WL.nil ?_
              rcases condE hj9 with ⟨hc15, hj9⟩ | ⟨hc15, hj9⟩
              · refine WP.condT rfl hc15 ?_
                refine WP.skip ?_
                obtain rfl := Option.some.inj hj9
                exact ⟨H0, rfl, rfl, S⟩
              · refine WP.condF rfl hc15 ?_
                refine WP.seq ?_
                refine WP.region ?_
                refine WL.valw (R.eql8 (a := p_c) (b := 39) rfl rfl) ?_
                refine WL.valw (R.as (v := (boo (p_c == 39))) rfl) ?_
                refine WL.nil ?_
                rcases condE hj9 with ⟨hc16, hj9⟩ | ⟨hc16, hj9⟩
                · refine WP.condT rfl hc16 ?_
                  refine WP.skip ?_
                  obtain rfl := Option.some.inj hj9
                  exact ⟨H0, rfl, rfl, S⟩
                · refine WP.condF rfl hc16 ?_
                  refine WP.seq ?_
                  refine WP.region ?_
                  refine WL.valw (R.eql8 (a := p_c) (b := 42) rfl rfl) ?_
                  refine WL.valw (R.as (v := (boo (p_c == 42))) rfl) ?_
                  refine WL.nil ?_
                  rcases condE hj9 with ⟨hc17, hj9⟩ | ⟨hc17, hj9⟩
                  · refine WP.condT rfl hc17 ?_
                    refine WP.skip ?_
                    obtain rfl := Option.some.inj hj9
                    exact ⟨H0, rfl, rfl, S⟩
                  · refine WP.condF rfl hc17 ?_
                    refine WP.seq ?_
                    refine WP.region ?_
                    refine WL.valw (R.eql8 (a := p_c) (b := 43) rfl rfl) ?_
                    refine WL.valw (R.as (v := (boo (p_c == 43))) rfl) ?_
                    refine WL.nil ?_
                    rcases condE hj9 with ⟨hc18, hj9⟩ | ⟨hc18, hj9⟩
                    · refine WP.condT rfl hc18 ?_
                      refine WP.skip ?_
                      obtain rfl := Option.some.inj hj9
                      exact ⟨H0, rfl, rfl, S⟩
                    · refine WP.condF rfl hc18 ?_
                      refine WP.seq ?_
                      refine WP.region ?_
                      refine WL.valw (R.eql8 (a := p_c) (b := 45) rfl rfl) ?_
                      refine WL.valw (R.as (v := (boo (p_c == 45))) rfl) ?_
                      refine WL.nil ?_
                      rcases condE hj9 with ⟨hc19, hj9⟩ | ⟨hc19, hj9⟩
                      · refine WP.condT rfl hc19 ?_
                        refine WP.skip ?_
                        obtain rfl := Option.some.inj hj9
                        exact ⟨H0, rfl, rfl, S⟩
                      · refine WP.condF rfl hc19 ?_
                        refine WP.seq ?_
                        refine WP.region ?_
                        refine WL.valw (R.eql8 (a := p_c) (b := 46) rfl rfl) ?_
                        refine WL.valw (R.as (v := (boo (p_c == 46))) rfl) ?_
                        refine WL.nil ?_
                        rcases condE hj9 with ⟨hc20, hj9⟩ | ⟨hc20, hj9⟩
                        · refine WP.condT rfl hc20 ?_
                          refine WP.skip ?_
                          obtain rfl := Option.some.inj hj9
                          exact ⟨H0, rfl, rfl, S⟩
                        · refine WP.condF rfl hc20 ?_
                          refine WP.seq ?_
                          refine WP.region ?_
                          refine WL.valw (R.eql8 (a := p_c) (b := 94) rfl rfl) ?_
                          refine WL.valw (R.as (v := (boo (p_c == 94))) rfl) ?_
                          refine WL.nil ?_
                          rcases condE hj9 with ⟨hc21, hj9⟩ | ⟨hc21, hj9⟩
                          · refine WP.condT rfl hc21 ?_
                            refine WP.skip ?_
                            obtain rfl := Option.some.inj hj9
                            exact ⟨H0, rfl, rfl, S⟩
                          · refine WP.condF rfl hc21 ?_
                            refine WP.seq ?_
                            refine WP.region ?_
                            refine WL.valw (R.eql8 (a := p_c) (b := 95) rfl rfl) ?_
                            refine WL.valw (R.as (v := (boo (p_c == 95))) rfl) ?_
                            refine WL.nil ?_
                            rcases condE hj9 with ⟨hc22, hj9⟩ | ⟨hc22, hj9⟩
                            · refine WP.condT rfl hc22 ?_
                              refine WP.skip ?_
                              obtain rfl := Option.some.inj hj9
                              exact ⟨H0, rfl, rfl, S⟩
                            · refine WP.condF rfl hc22 ?_
                              refine WP.seq ?_
                              refine WP.region ?_
                              refine WL.valw (R.eql8 (a := p_c) (b := 96) rfl rfl) ?_
                              refine WL.valw (R.as (v := (boo (p_c == 96))) rfl) ?_
                              refine WL.nil ?_
                              rcases condE hj9 with ⟨hc23, hj9⟩ | ⟨hc23, hj9⟩
                              · refine WP.condT rfl hc23 ?_
                                refine WP.skip ?_
                                obtain rfl := Option.some.inj hj9
                                exact ⟨H0, rfl, rfl, S⟩
                              · refine WP.condF rfl hc23 ?_
                                refine WP.seq ?_
                                refine WP.region ?_
                                refine WL.valw (R.eql8 (a := p_c) (b := 124) rfl rfl) ?_
                                refine WL.valw (R.as (v := (boo (p_c == 124))) rfl) ?_
                                refine WL.nil ?_
                                rcases condE hj9 with ⟨hc24, hj9⟩ | ⟨hc24, hj9⟩
                                · refine WP.condT rfl hc24 ?_
                                  refine WP.skip ?_
                                  obtain rfl := Option.some.inj hj9
                                  exact ⟨H0, rfl, rfl, S⟩
                                · refine WP.condF rfl hc24 ?_
                                  refine WP.region ?_
                                  refine WL.valw (R.eql8 (a := p_c) (b := 126) rfl rfl) ?_
                                  refine WL.valw (R.as (v := (boo (p_c == 126))) rfl) ?_
                                  refine WL.nil ?_
                                  obtain rfl := Option.some.inj hj9
                                  exact ⟨H0, rfl, rfl, S⟩
    · rintro f w ⟨H5, h6, h8, S⟩
      rcases condE hj3 with ⟨hc25, hj3⟩ | ⟨hc25, hj3⟩
      · refine WP.condT h8 hc25 ?_
        refine WP.seq ?_
        refine WP.region ?_
        refine WL.valw (R.as (v := (boo true)) rfl) ?_
        refine WL.nil ?_
        obtain rfl := Option.some.inj hj3
        obtain rfl := Option.some.inj h
        refine WP.ret (Out.one rfl S rfl ?_)
        exact rfl
      · refine WP.condF h8 hc25 ?_
        refine WP.skip ?_
        obtain rfl := Option.some.inj hj3
        exact ⟨H5, h6, S⟩
  · intro f w hM
    rcases j4 with _ | e
    · obtain ⟨H1, h2, S⟩ := hM
      refine WP.seq ?_
      refine WP.region ?_
      refine WL.valw (R.mv (v := (byt p_c)) h2) ?_
      refine WL.valw (R.geq8 (a := p_c) (b := 48) rfl rfl) ?_
      refine WL.valw (R.mv (v := (boo (decide (48 ≤ p_c)))) rfl) ?_
      refine WL.grp 3 [23, 24] 25 (boo ((decide (48 ≤ p_c)) && (decide (p_c ≤ 57)))) ?_ ?_
      · rcases boolE (decide (48 ≤ p_c)) with hb26 | hb26
        · refine WL.gyes rfl rfl hb26 ?_
          refine WL.valw (R.mv (v := (byt p_c)) h2) ?_
          refine WL.gyes rfl rfl hb26 ?_
          refine WL.valw (R.leq8 (a := p_c) (b := 57) rfl rfl) ?_
          refine WL.valw (R.pickT rfl hb26 rfl) ?_
          exact WL.nil ⟨(andT hb26), (by repeat (first | refine agree_upd rfl ?_ | refine agree_upds' rfl ?_ | exact agree_refl)), rfl⟩
        · refine WL.gno rfl rfl hb26 ?_
          refine WL.gno rfl rfl hb26 ?_
          refine WL.valw (R.pickF rfl hb26 rfl) ?_
          exact WL.nil ⟨(andF hb26), (by repeat (first | refine agree_upd rfl ?_ | refine agree_upds' rfl ?_ | exact agree_refl)), rfl⟩
      · intro us
        refine WL.valw (R.mv (v := (boo ((decide (48 ≤ p_c)) && (decide (p_c ≤ 57))))) rfl) ?_
        refine WL.grp 7 [27, 28, 29, 30, 31, 32] 33 (boo (((decide (48 ≤ p_c)) && (decide (p_c ≤ 57))) || ((decide (65 ≤ p_c)) && (decide (p_c ≤ 90))))) ?_ ?_
        · rcases boolE ((decide (48 ≤ p_c)) && (decide (p_c ≤ 57))) with hb28 | hb28
          · refine WL.gno rfl rfl hb28 ?_
            refine WL.gno rfl rfl hb28 ?_
            refine WL.gno rfl rfl hb28 ?_
            refine WL.gund rfl rfl ?_
            refine WL.gund rfl rfl ?_
            refine WL.gno rfl rfl hb28 ?_
            refine WL.valw (R.pickT rfl hb28 rfl) ?_
            exact WL.nil ⟨(orT hb28), (by repeat (first | refine agree_upd rfl ?_ | refine agree_upds' rfl ?_ | exact agree_refl)), rfl⟩
          · refine WL.gyes rfl rfl hb28 ?_
            refine WL.valw (R.mv (v := (byt p_c)) h2) ?_
            refine WL.gyes rfl rfl hb28 ?_
            refine WL.valw (R.geq8 (a := p_c) (b := 65) rfl rfl) ?_
            refine WL.gyes rfl rfl hb28 ?_
            refine WL.valw (R.mv (v := (boo (decide (65 ≤ p_c)))) rfl) ?_
            refine WL.grp 3 [30, 31] 32 (boo ((decide (65 ≤ p_c)) && (decide (p_c ≤ 90)))) ?_ ?_
            · rcases boolE (decide (65 ≤ p_c)) with hb30 | hb30
              · refine WL.gyes rfl rfl hb30 ?_
                refine WL.valw (R.mv (v := (byt p_c)) h2) ?_
                refine WL.gyes rfl rfl hb30 ?_
                refine WL.valw (R.leq8 (a := p_c) (b := 90) rfl rfl) ?_
                refine WL.gyes rfl rfl hb28 ?_
                refine WL.valw (R.pickT rfl hb30 rfl) ?_
                exact WL.nil ⟨(andT hb30), (by repeat (first | refine agree_upd rfl ?_ | refine agree_upds' rfl ?_ | exact agree_refl)), rfl⟩
              · refine WL.gno rfl rfl hb30 ?_
                refine WL.gno rfl rfl hb30 ?_
                refine WL.gyes rfl rfl hb28 ?_
                refine WL.valw (R.pickF rfl hb30 rfl) ?_
                exact WL.nil ⟨(andF hb30), (by repeat (first | refine agree_upd rfl ?_ | refine agree_upds' rfl ?_ | exact agree_refl)), rfl⟩
            · intro us
              refine WL.valw (R.pickF rfl hb28 rfl) ?_
              exact WL.nil ⟨(orF hb28), (by repeat (first | refine agree_upd rfl ?_ | refine agree_upds' rfl ?_ | exact agree_refl)), rfl⟩
        · intro us
          refine WL.valw (R.mv (v := (boo (((decide (48 ≤ p_c)) && (decide (p_c ≤ 57))) || ((decide (65 ≤ p_c)) && (decide (p_c ≤ 90)))))) rfl) ?_
          refine WL.grp 7 [35, 36, 37, 38, 39, 40] 41 (boo ((((decide (48 ≤ p_c)) && (decide (p_c ≤ 57))) || ((decide (65 ≤ p_c)) && (decide (p_c ≤ 90)))) || ((decide (97 ≤ p_c)) && (decide (p_c ≤ 122))))) ?_ ?_
          · rcases boolE (((decide (48 ≤ p_c)) && (decide (p_c ≤ 57))) || ((decide (65 ≤ p_c)) && (decide (p_c ≤ 90)))) with hb32 | hb32
            · refine WL.gno rfl rfl hb32 ?_
              refine WL.gno rfl rfl hb32 ?_
              refine WL.gno rfl rfl hb32 ?_
              refine WL.gund rfl rfl ?_
              refine WL.gund rfl rfl ?_
              refine WL.gno rfl rfl hb32 ?_
              refine WL.valw (R.pickT rfl hb32 rfl) ?_
              exact WL.nil ⟨(orT hb32), (by repeat (first | refine agree_upd rfl ?_ | refine agree_upds' rfl ?_ | exact agree_refl)), rfl⟩
            · refine WL.gyes rfl rfl hb32 ?_
              refine WL.valw (R.mv (v := (byt p_c)) h2) ?_
              refine WL.gyes rfl rfl hb32 ?_
              refine WL.valw (R.geq8 (a := p_c) (b := 97) rfl rfl) ?_
              refine WL.gyes rfl rfl hb32 ?_
              refine WL.valw (R.mv (v := (boo (decide (97 ≤ p_c)))) rfl) ?_
              refine WL.grp 3 [38, 39] 40 (boo ((decide (97 ≤ p_c)) && (decide (p_c ≤ 122)))) ?_ ?_
              · rcases boolE (decide (97 ≤ p_c)) with hb34 | hb34
                · refine WL.gyes rfl rfl hb34 ?_
                  refine WL.valw (R.mv (v := (byt p_c)) h2) ?_
                  refine WL.gyes rfl rfl hb34 ?_
                  refine WL.valw (R.leq8 (a := p_c) (b := 122) rfl rfl) ?_
                  refine WL.gyes rfl rfl hb32 ?_
                  refine WL.valw (R.pickT rfl hb34 rfl) ?_
                  exact WL.nil ⟨(andT hb34), (by repeat (first | refine agree_upd rfl ?_ | refine agree_upds' rfl ?_ | exact agree_refl)), rfl⟩
                · refine WL.gno rfl rfl hb34 ?_
                  refine WL.gno rfl rfl hb34 ?_
                  refine WL.gyes rfl rfl hb32 ?_
                  refine WL.valw (R.pickF rfl hb34 rfl) ?_
                  exact WL.nil ⟨(andF hb34), (by repeat (first | refine agree_upd rfl ?_ | refine agree_upds' rfl ?_ | exact agree_refl)), rfl⟩
              · intro us
                refine WL.valw (R.pickF rfl hb32 rfl) ?_
                exact WL.nil ⟨(orF hb32), (by repeat (first | refine agree_upd rfl ?_ | refine agree_upds' rfl ?_ | exact agree_refl)), rfl⟩
          · intro us
            refine WL.valw (R.as (v := (boo ((((decide (48 ≤ p_c)) && (decide (p_c ≤ 57))) || ((decide (65 ≤ p_c)) && (decide (p_c ≤ 90)))) || ((decide (97 ≤ p_c)) && (decide (p_c ≤ 122)))))) rfl) ?_
            refine WL.nil ?_
            obtain rfl := Option.some.inj h
            refine WP.ret (Out.one rfl S rfl ?_)
            exact rfl
    · exact hM.elim
set_option maxRecDepth 10000 in
set_option maxHeartbeats 4000000 in
theorem ascii_Token_ok {w0 : World} {H0 : Hp} (hw : Holds w0 H0) (p_s : Str) {r : Bool} (h : ascii_Token p_s = some r) :
    Con Tryd.prog 46 [(str p_s)] w0 H0 (fun H' v => v = (boo r)) := by
  refine Con.mk (N := 17) Tryd.func46 rfl rfl (by kernel_rfl) rfl ?_
  have S := St.start hw
  refine WP.seq ?_
  refine WP.region ?_
  refine WL.valw (R.as (v := (boo false)) rfl) ?_
  refine WL.nil ?_
  refine WP.seq ?_
  refine WP.seq ?_
  refine WP.region ?_
  refine WL.valw (R.mv (v := (str p_s)) rfl) ?_
  refine WL.valw (R.lenS (a := p_s) rfl Tryd.underlying9) ?_
  refine WL.valw (R.mv (v := (int 0)) rfl) ?_
  refine WL.nil ?_
  obtain ⟨r11, hr12, h⟩ := bindE h
  refine WP.cut (fun f w => match r11 with | .inl _ => ∃ (H6 : Hp), f 0 = (str p_s) ∧ St w0 H0 w H6 [] | .inr _ => False) ?_ ?_
  · refine WP.block ?_
    refine WP.loopM (ascii_Token_L0 p_s) (fun s f w => match s with | y_4 => ∃ (H1 : Hp), f 0 = (str p_s) ∧ f 5 = (int (p_s.length : Int)) ∧ f 6 = (int y_4) ∧ St w0 H0 w H1 []) 0 r11 hr12 ?_ ?_
    · exact ⟨H0, rfl, rfl, rfl, S⟩
    · intro y_4 f w hI y8 hy9 hy10
      obtain ⟨H1, h2, h3, h5, S⟩ := hI
      refine WP.seq ?_
      refine WP.region ?_
      refine WL.valw (R.lss h5 h3) ?_
      refine WL.nil ?_
      refine WP.seq ?_
      rcases condE hy9 with ⟨hc13, hy9⟩ | ⟨hc13, hy9⟩
      · refine WP.condT rfl hc13 ?_
        refine WP.skip ?_
        refine WP.seq ?_
        refine WP.block ?_
        refine WP.seq ?_
        refine WP.region ?_
        refine WL.valw (R.mv (v := (int y_4)) h5) ?_
        refine WL.valw (R.as (v := (int y_4)) rfl) ?_
        refine WL.nil ?_
        refine WP.seq ?_
        refine WP.region ?_
        refine WL.valw (R.mv (v := (str p_s)) h2) ?_
        refine WL.valw (R.mv (v := (int y_4)) rfl) ?_
        obtain ⟨c14, hc14, hy9⟩ := bindE hy9
        refine WL.valw (R.idxS rfl rfl Tryd.underlying9 hc14) ?_
        obtain ⟨r15, hr15, hy9⟩ := bindE hy9
        refine W.call S rfl (ascii_part_ok S.holds c14 hr15) ?_
        rintro v16 w17 H18 hle19 S rfl
        refine WL.valw (R.not rfl) ?_
        refine WL.nil ?_
        rcases condE hy9 with ⟨hc20, hy9⟩ | ⟨hc20, hy9⟩
        · refine WP.condT rfl hc20 ?_
          refine WP.seq ?_
          refine WP.region ?_
          refine WL.valw (R.as (v := (boo false)) rfl) ?_
          refine WL.nil ?_
          obtain rfl := Option.some.inj hy9
          obtain rfl := hy10
          obtain rfl := Option.some.inj h
          refine WP.ret (Out.one rfl S rfl ?_)
          exact rfl
        · refine WP.condF rfl hc20 ?_
          refine WP.skip ?_
          refine WP.region ?_
          refine WL.valw (R.add h5 rfl) ?_
          refine WL.valw (R.mv (v := (int (wr (y_4 + 1)))) rfl) ?_
          refine WL.nil ?_
          obtain rfl := Option.some.inj hy9
          exact ⟨rfl, ⟨H18, h2, h3, rfl, S⟩⟩
      · refine WP.condF rfl hc13 ?_
        refine WP.exit ?_
        obtain rfl := Option.some.inj hy9
        obtain rfl := hy10
        exact ⟨H1, h2, S⟩
  · intro f w hM
    rcases r11 with _ | e
    · obtain ⟨H6, h7, S⟩ := hM
      refine WP.seq ?_
      refine WP.region ?_
      refine WL.valw (R.mv (v := (str p_s)) h7) ?_
      refine WL.valw (R.neqS (a := p_s) (b := []) rfl rfl) ?_
      refine WL.valw (R.as (v := (boo (p_s != []))) rfl) ?_
      refine WL.nil ?_
      obtain rfl := Option.some.inj h
      refine WP.ret (Out.one rfl S rfl ?_)
      exact rfl
    · exact hM.elim
end Go.Proofs
