/- A part of the proof of laws of the seat: written by program over the translation. -/
import Derived.Test.YtogfdiigokidaaaDoorGenG4
namespace Go.Proofs
open Go.Eng Go.Eng.Pure
set_option linter.unusedVariables false
set_option maxRecDepth 10000 in
set_option maxHeartbeats 4000000 in
theorem ref10_SameStrings_ok {w0 : World} {H0 : Hp} (hw : Holds w0 H0) (hG : Tryd.Gl w0) (p_a : (List Str)) (p_b : (List Str)) {vp_a : Value} {vp_b : Value} (Rp_a : Sl (α := Str) H0 vp_a p_a) (Rp_b : Sl (α := Str) H0 vp_b p_b) {r : Bool} (h : ref10_SameStrings p_a p_b = some r) :
    Con Tryd.prog 24 [vp_a, vp_b] w0 H0 (fun H' v => v = (boo r)) := by
  refine Con.mk (N := 26) Tryd.func24 rfl rfl (by kernel_rfl) rfl ?_
  have S := St.start hw
  refine WP.seq ?_
  refine WP.region ?_
  refine WL.valw (R.as (v := (boo false)) rfl) ?_
  refine WL.nil ?_
  refine WP.seq ?_
  refine WP.seq ?_
  refine WP.region ?_
  refine WL.valw (R.mv (v := vp_a) rfl) ?_
  refine WL.valw (R.lenL (α := Str) (xs := p_a) (H := H0) Rp_a rfl Tryd.underlying23) ?_
  refine WL.valw (R.mv (v := vp_b) rfl) ?_
  refine WL.valw (R.lenL (α := Str) (xs := p_b) (H := H0) Rp_b rfl Tryd.underlying23) ?_
  refine WL.valw (R.neq rfl rfl) ?_
  refine WL.nil ?_
  rcases condE h with ⟨hc1, h⟩ | ⟨hc1, h⟩
  · refine WP.condT rfl hc1 ?_
    refine WP.seq ?_
    refine WP.region ?_
    refine WL.valw (R.as (v := (boo false)) rfl) ?_
    refine WL.nil ?_
    obtain rfl := Option.some.inj h
    refine WP.ret (Out.one rfl S rfl ?_)
    exact rfl
  · refine WP.condF rfl hc1 ?_
    refine WP.skip ?_
    refine WP.seq ?_
    refine WP.seq ?_
    refine WP.region ?_
    refine WL.valw (R.as (v := (int 0)) rfl) ?_
    refine WL.nil ?_
    obtain ⟨r11, hr12, h⟩ := bindE h
    refine WP.cut (fun f w => match r11 with | .inl _ => ∃ (H7 : Hp), St w0 H0 w H7 [] | .inr _ => False) ?_ ?_
    · refine WP.block ?_
      refine WP.loopM (ref10_SameStrings_L0 p_a p_b) (fun s f w => match s with | i_5 => ∃ (H2 : Hp), f 0 = vp_a ∧ f 1 = vp_b ∧ f 5 = (int i_5) ∧ Sl (α := Str) H2 vp_a p_a ∧ Sl (α := Str) H2 vp_b p_b ∧ St w0 H0 w H2 []) 0 r11 hr12 ?_ ?_
      · exact ⟨H0, rfl, rfl, rfl, Rp_a, Rp_b, S⟩
      · intro i_5 f w hI y8 hy9 hy10
        obtain ⟨H2, h3, h4, h6, Rp_a, Rp_b, S⟩ := hI
        refine WP.seq ?_
        refine WP.seq ?_
        refine WP.region ?_
        refine WL.valw (R.mv (v := (int i_5)) h6) ?_
        refine WL.valw (R.mv (v := vp_a) h3) ?_
        refine WL.valw (R.lenL (α := Str) (xs := p_a) (H := H2) Rp_a rfl Tryd.underlying23) ?_
        refine WL.valw (R.lss rfl rfl) ?_
        refine WL.nil ?_
        rcases condE hy9 with ⟨hc13, hy9⟩ | ⟨hc13, hy9⟩
        · refine WP.condT rfl hc13 ?_
          refine WP.skip ?_
          refine WP.seq ?_
          refine WP.block ?_
          refine WP.seq ?_
          refine WP.quiet S (by kernel_rfl) (by kernel_rfl) ?_
          refine WQ.val (fun _ _ => (R.mv (v := vp_a) h3)) ?_
          refine WQ.val (fun _ _ => (R.mv (v := (int i_5)) h6)) ?_
          obtain ⟨x17, hx17, hy9⟩ := bindE hy9
          refine WQ.idx (α := Str) Rp_a rfl rfl el23 hx17 ?_
          rintro a18 _ hA19 rfl
          refine WQ.val (fun w hw => by obtain ⟨_, hq, S⟩ := hw; exact (R.loadH (v := (str x17)) S rfl (At.mono hA19 hq (by simp)) lay9 rfl)) ?_
          refine WQ.val (fun _ _ => (R.mv (v := vp_b) h4)) ?_
          refine WQ.val (fun _ _ => (R.mv (v := (int i_5)) h6)) ?_
          obtain ⟨x20, hx20, hy9⟩ := bindE hy9
          refine WQ.idx (α := Str) Rp_b rfl rfl el23 hx20 ?_
          rintro a21 _ hA22 rfl
          refine WQ.val (fun w hw => by obtain ⟨_, hq, S⟩ := hw; exact (R.loadH (v := (str x20)) S rfl (At.mono hA22 hq (by simp)) lay9 rfl)) ?_
          refine WQ.val (fun _ _ => (R.neqS (a := x17) (b := x20) rfl rfl)) ?_
          refine WQ.nil ?_
          intro w14 H15 hle16 S
          have Rp_a := Sl.mono Rp_a hle16
          have Rp_b := Sl.mono Rp_b hle16
          have hA19 := At.mono hA19 hle16 (by simp)
          have hA22 := At.mono hA22 hle16 (by simp)
          rcases condE hy9 with ⟨hc23, hy9⟩ | ⟨hc23, hy9⟩
          · refine WP.condT rfl hc23 ?_
            refine WP.seq ?_
            refine WP.region ?_
            refine WL.valw (R.as (v := (boo false)) rfl) ?_
            refine WL.nil ?_
            obtain rfl := Option.some.inj hy9
            obtain rfl := hy10
            obtain rfl := Option.some.inj h
            refine WP.ret (Out.one rfl S rfl ?_)
            exact rfl
          · refine WP.condF rfl hc23 ?_
            refine WP.skip ?_
            refine WP.region ?_
            refine WL.valw (R.mv (v := (int i_5)) h6) ?_
            refine WL.valw (R.add rfl rfl) ?_
            refine WL.valw (R.as (v := (int (wr (i_5 + 1)))) rfl) ?_
            refine WL.nil ?_
            obtain rfl := Option.some.inj hy9
            exact ⟨rfl, ⟨H15, h3, h4, rfl, Rp_a, Rp_b, S⟩⟩
        · refine WP.condF rfl hc13 ?_
          refine WP.exit ?_
          obtain rfl := Option.some.inj hy9
          obtain rfl := hy10
          exact ⟨H2, S⟩
    · intro f w hM
      rcases r11 with _ | e
      · obtain ⟨H7, S⟩ := hM
        refine WP.seq ?_
        refine WP.region ?_
        refine WL.valw (R.as (v := (boo true)) rfl) ?_
        refine WL.nil ?_
        obtain rfl := Option.some.inj h
        refine WP.ret (Out.one rfl S rfl ?_)
        exact rfl
      · exact hM.elim
set_option maxRecDepth 10000 in
set_option maxHeartbeats 4000000 in
theorem ref26_SameKeys_ok {w0 : World} {H0 : Hp} (hw : Holds w0 H0) (hG : Tryd.Gl w0) (p_a : (List (List Str))) (p_b : (List (List Str))) {vp_a : Value} {vp_b : Value} (Rp_a : Sl (α := (List Str)) H0 vp_a p_a) (Rp_b : Sl (α := (List Str)) H0 vp_b p_b) {r : Bool} (h : ref26_SameKeys p_a p_b = some r) :
    Con Tryd.prog 23 [vp_a, vp_b] w0 H0 (fun H' v => v = (boo r)) := by
  refine Con.mk (N := 27) Tryd.func23 rfl rfl (by kernel_rfl) rfl ?_
  have S := St.start hw
  refine WP.seq ?_
  refine WP.region ?_
  refine WL.valw (R.as (v := (boo false)) rfl) ?_
  refine WL.nil ?_
  refine WP.seq ?_
  refine WP.seq ?_
  refine WP.region ?_
  refine WL.valw (R.mv (v := vp_a) rfl) ?_
  refine WL.valw (R.lenL (α := (List Str)) (xs := p_a) (H := H0) Rp_a rfl Tryd.underlying22) ?_
  refine WL.valw (R.mv (v := vp_b) rfl) ?_
  refine WL.valw (R.lenL (α := (List Str)) (xs := p_b) (H := H0) Rp_b rfl Tryd.underlying22) ?_
  refine WL.valw (R.neq rfl rfl) ?_
  refine WL.nil ?_
  rcases condE h with ⟨hc1, h⟩ | ⟨hc1, h⟩
  · refine WP.condT rfl hc1 ?_
    refine WP.seq ?_
    refine WP.region ?_
    refine WL.valw (R.as (v := (boo false)) rfl) ?_
    refine WL.nil ?_
    obtain rfl := Option.some.inj h
    refine WP.ret (Out.one rfl S rfl ?_)
    exact rfl
  · refine WP.condF rfl hc1 ?_
    refine WP.skip ?_
    refine WP.seq ?_
    refine WP.seq ?_
    refine WP.region ?_
    refine WL.valw (R.as (v := (int 0)) rfl) ?_
    refine WL.nil ?_
    obtain ⟨r11, hr12, h⟩ := bindE h
    refine WP.cut (fun f w => match r11 with | .inl _ => ∃ (H7 : Hp), St w0 H0 w H7 [] | .inr _ => False) ?_ ?_
    · refine WP.block ?_
      refine WP.loopM (ref26_SameKeys_L0 p_a p_b) (fun s f w => match s with | i_5 => ∃ (H2 : Hp), f 0 = vp_a ∧ f 1 = vp_b ∧ f 5 = (int i_5) ∧ Sl (α := (List Str)) H2 vp_a p_a ∧ Sl (α := (List Str)) H2 vp_b p_b ∧ St w0 H0 w H2 []) 0 r11 hr12 ?_ ?_
      · exact ⟨H0, rfl, rfl, rfl, Rp_a, Rp_b, S⟩
      · intro i_5 f w hI y8 hy9 hy10
        obtain ⟨H2, h3, h4, h6, Rp_a, Rp_b, S⟩ := hI
        refine WP.seq ?_
        refine WP.seq ?_
        refine WP.region ?_
        refine WL.valw (R.mv (v := (int i_5)) h6) ?_
        refine WL.valw (R.mv (v := vp_a) h3) ?_
        refine WL.valw (R.lenL (α := (List Str)) (xs := p_a) (H := H2) Rp_a rfl Tryd.underlying22) ?_
        refine WL.valw (R.lss rfl rfl) ?_
        refine WL.nil ?_
        rcases condE hy9 with ⟨hc13, hy9⟩ | ⟨hc13, hy9⟩
        · refine WP.condT rfl hc13 ?_
          refine WP.skip ?_
          refine WP.seq ?_
          refine WP.block ?_
          refine WP.seq ?_
          refine WP.quiet S (by kernel_rfl) (by kernel_rfl) ?_
          refine WQ.val (fun _ _ => (R.mv (v := vp_a) h3)) ?_
          refine WQ.val (fun _ _ => (R.mv (v := (int i_5)) h6)) ?_
          obtain ⟨x17, hx17, hy9⟩ := bindE hy9
          refine WQ.idx (α := (List Str)) Rp_a rfl rfl el22 hx17 ?_
          rintro a18 _ hA19 ⟨v20, rfl, R21⟩
          refine WQ.val (fun w hw => by obtain ⟨_, hq, S⟩ := hw; exact (R.loadH (v := v20) S rfl (At.mono hA19 hq (by simp)) lay23 rfl)) ?_
          refine WQ.val (fun _ _ => (R.mv (v := vp_b) h4)) ?_
          refine WQ.val (fun _ _ => (R.mv (v := (int i_5)) h6)) ?_
          obtain ⟨x22, hx22, hy9⟩ := bindE hy9
          refine WQ.idx (α := (List Str)) Rp_b rfl rfl el22 hx22 ?_
          rintro a23 _ hA24 ⟨v25, rfl, R26⟩
          refine WQ.val (fun w hw => by obtain ⟨_, hq, S⟩ := hw; exact (R.loadH (v := v25) S rfl (At.mono hA24 hq (by simp)) lay23 rfl)) ?_
          obtain ⟨r27, hr27, hy9⟩ := bindE hy9
          refine WQ.call (v := (boo r27)) rfl (fun w H' hq S => ref10_SameStrings_ok S.holds (hG.post S.post) x17 x22 (Sl.mono R21 hq) (Sl.mono R26 hq) hr27) ?_
          refine WQ.val (fun _ _ => (R.not rfl)) ?_
          refine WQ.nil ?_
          intro w14 H15 hle16 S
          have Rp_a := Sl.mono Rp_a hle16
          have Rp_b := Sl.mono Rp_b hle16
          have hA19 := At.mono hA19 hle16 (by simp)
          have R21 := Sl.mono R21 hle16
          have hA24 := At.mono hA24 hle16 (by simp)
          have R26 := Sl.mono R26 hle16
          rcases condE hy9 with ⟨hc32, hy9⟩ | ⟨hc32, hy9⟩
          · refine WP.condT rfl hc32 ?_
            refine WP.seq ?_
            refine WP.region ?_
            refine WL.valw (R.as (v := (boo false)) rfl) ?_
            refine WL.nil ?_
            obtain rfl := Option.some.inj hy9
            obtain rfl := hy10
            obtain rfl := Option.some.inj h
            refine WP.ret (Out.one rfl S rfl ?_)
            exact rfl
          · refine WP.condF rfl hc32 ?_
            refine WP.skip ?_
            refine WP.region ?_
            refine WL.valw (R.mv (v := (int i_5)) h6) ?_
            refine WL.valw (R.add rfl rfl) ?_
            refine WL.valw (R.as (v := (int (wr (i_5 + 1)))) rfl) ?_
            refine WL.nil ?_
            obtain rfl := Option.some.inj hy9
            exact ⟨rfl, ⟨H15, h3, h4, rfl, Rp_a, Rp_b, S⟩⟩
        · refine WP.condF rfl hc13 ?_
          refine WP.exit ?_
          obtain rfl := Option.some.inj hy9
          obtain rfl := hy10
          exact ⟨H2, S⟩
    · intro f w hM
      rcases r11 with _ | e
      · obtain ⟨H7, S⟩ := hM
        refine WP.seq ?_
        refine WP.region ?_
        refine WL.valw (R.as (v := (boo true)) rfl) ?_
        refine WL.nil ?_
        obtain rfl := Option.some.inj h
        refine WP.ret (Out.one rfl S rfl ?_)
        exact rfl
      · exact hM.elim
set_option maxRecDepth 10000 in
set_option maxHeartbeats 4000000 in
theorem ref26_SameFields_ok {w0 : World} {H0 : Hp} (hw : Holds w0 H0) (hG : Tryd.Gl w0) (p_a : (List GField)) (p_b : (List GField)) {vp_a : Value} {vp_b : Value} (Rp_a : Sl (α := GField) H0 vp_a p_a) (Rp_b : Sl (α := GField) H0 vp_b p_b) {r : Bool} (h : ref26_SameFields p_a p_b = some r) :
    Con Tryd.prog 25 [vp_a, vp_b] w0 H0 (fun H' v => v = (boo r)) := by
  refine Con.mk (N := 26) Tryd.func25 rfl rfl (by kernel_rfl) rfl ?_
  have S := St.start hw
  refine WP.seq ?_
  refine WP.region ?_
  refine WL.valw (R.as (v := (boo false)) rfl) ?_
  refine WL.nil ?_
  refine WP.seq ?_
  refine WP.seq ?_
  refine WP.region ?_
  refine WL.valw (R.mv (v := vp_a) rfl) ?_
  refine WL.valw (R.lenL (α := GField) (xs := p_a) (H := H0) Rp_a rfl Tryd.underlying24) ?_
  refine WL.valw (R.mv (v := vp_b) rfl) ?_
  refine WL.valw (R.lenL (α := GField) (xs := p_b) (H := H0) Rp_b rfl Tryd.underlying24) ?_
  refine WL.valw (R.neq rfl rfl) ?_
  refine WL.nil ?_
  rcases condE h with ⟨hc1, h⟩ | ⟨hc1, h⟩
  · refine WP.condT rfl hc1 ?_
    refine WP.seq ?_
    refine WP.region ?_
    refine WL.valw (R.as (v := (boo false)) rfl) ?_
    refine WL.nil ?_
    obtain rfl := Option.some.inj h
    refine WP.ret (Out.one rfl S rfl ?_)
    exact rfl
  · refine WP.condF rfl hc1 ?_
    refine WP.skip ?_
    refine WP.seq ?_
    refine WP.seq ?_
    refine WP.region ?_
    refine WL.valw (R.as (v := (int 0)) rfl) ?_
    refine WL.nil ?_
    obtain ⟨r11, hr12, h⟩ := bindE h
    refine WP.cut (fun f w => match r11 with | .inl _ => ∃ (H7 : Hp), St w0 H0 w H7 [] | .inr _ => False) ?_ ?_
    · refine WP.block ?_
      refine WP.loopM (ref26_SameFields_L0 p_a p_b) (fun s f w => match s with | i_5 => ∃ (H2 : Hp), f 0 = vp_a ∧ f 1 = vp_b ∧ f 5 = (int i_5) ∧ Sl (α := GField) H2 vp_a p_a ∧ Sl (α := GField) H2 vp_b p_b ∧ St w0 H0 w H2 []) 0 r11 hr12 ?_ ?_
      · exact ⟨H0, rfl, rfl, rfl, Rp_a, Rp_b, S⟩
      · intro i_5 f w hI y8 hy9 hy10
        obtain ⟨H2, h3, h4, h6, Rp_a, Rp_b, S⟩ := hI
        refine WP.seq ?_
        refine WP.seq ?_
        refine WP.region ?_
        refine WL.valw (R.mv (v := (int i_5)) h6) ?_
        refine WL.valw (R.mv (v := vp_a) h3) ?_
        refine WL.valw (R.lenL (α := GField) (xs := p_a) (H := H2) Rp_a rfl Tryd.underlying24) ?_
        refine WL.valw (R.lss rfl rfl) ?_
        refine WL.nil ?_
        rcases condE hy9 with ⟨hc13, hy9⟩ | ⟨hc13, hy9⟩
        · refine WP.condT rfl hc13 ?_
          refine WP.skip ?_
          refine WP.seq ?_
          refine WP.block ?_
          refine WP.seq ?_
          refine WP.quiet S (by kernel_rfl) (by kernel_rfl) ?_
          refine WQ.val (fun _ _ => (R.mv (v := vp_a) h3)) ?_
          refine WQ.val (fun _ _ => (R.mv (v := (int i_5)) h6)) ?_
          obtain ⟨x17, hx17, hy9⟩ := bindE hy9
          refine WQ.idx (α := GField) Rp_a rfl rfl el24 hx17 ?_
          rintro a18 _ hA19 rfl
          refine WQ.val (fun w hw => by obtain ⟨_, hq, S⟩ := hw; exact (R.loadHN (vs := [(str x17.fName), (str x17.fValue)]) S rfl (At.mono hA19 hq (by simp)) lay39 rfl rfl)) ?_
          refine WQ.val (fun _ _ => (R.mv (v := vp_b) h4)) ?_
          refine WQ.val (fun _ _ => (R.mv (v := (int i_5)) h6)) ?_
          obtain ⟨x20, hx20, hy9⟩ := bindE hy9
          refine WQ.idx (α := GField) Rp_b rfl rfl el24 hx20 ?_
          rintro a21 _ hA22 rfl
          refine WQ.val (fun w hw => by obtain ⟨_, hq, S⟩ := hw; exact (R.loadHN (vs := [(str x20.fName), (str x20.fValue)]) S rfl (At.mono hA22 hq (by simp)) lay39 rfl rfl)) ?_
          refine WQ.val (fun _ _ => (R.neqA (!((x17.fName == x20.fName) && ((x17.fValue == x20.fValue) && true))) rfl rfl ps39 fk39 rfl rfl rfl)) ?_
          refine WQ.nil ?_
          intro w14 H15 hle16 S
          have Rp_a := Sl.mono Rp_a hle16
          have Rp_b := Sl.mono Rp_b hle16
          have hA19 := At.mono hA19 hle16 (by simp)
          have hA22 := At.mono hA22 hle16 (by simp)
          rcases condE hy9 with ⟨hc23, hy9⟩ | ⟨hc23, hy9⟩
          · refine WP.condT rfl hc23 ?_
            refine WP.seq ?_
            refine WP.region ?_
            refine WL.valw (R.as (v := (boo false)) rfl) ?_
            refine WL.nil ?_
            obtain rfl := Option.some.inj hy9
            obtain rfl := hy10
            obtain rfl := Option.some.inj h
            refine WP.ret (Out.one rfl S rfl ?_)
            exact rfl
          · refine WP.condF rfl hc23 ?_
            refine WP.skip ?_
            refine WP.region ?_
            refine WL.valw (R.mv (v := (int i_5)) h6) ?_
            refine WL.valw (R.add rfl rfl) ?_
            refine WL.valw (R.as (v := (int (wr (i_5 + 1)))) rfl) ?_
            refine WL.nil ?_
            obtain rfl := Option.some.inj hy9
            exact ⟨rfl, ⟨H15, h3, h4, rfl, Rp_a, Rp_b, S⟩⟩
        · refine WP.condF rfl hc13 ?_
          refine WP.exit ?_
          obtain rfl := Option.some.inj hy9
          obtain rfl := hy10
          exact ⟨H2, S⟩
    · intro f w hM
      rcases r11 with _ | e
      · obtain ⟨H7, S⟩ := hM
        refine WP.seq ?_
        refine WP.region ?_
        refine WL.valw (R.as (v := (boo true)) rfl) ?_
        refine WL.nil ?_
        obtain rfl := Option.some.inj h
        refine WP.ret (Out.one rfl S rfl ?_)
        exact rfl
      · exact hM.elim
set_option maxRecDepth 10000 in
set_option maxHeartbeats 4000000 in
theorem ref26_Equal_ok {w0 : World} {H0 : Hp} (hw : Holds w0 H0) (hG : Tryd.Gl w0) (p_a : GEntry) (p_b : GEntry) {vp_a0 : Value} {vp_a1 : Value} {vp_a2 : Value} {vp_a4 : Value} {vp_b0 : Value} {vp_b1 : Value} {vp_b2 : Value} {vp_b4 : Value} (Rp_a0 : Sl (α := (List Str)) H0 vp_a0 p_a.fKeys) (Rp_a1 : Sl (α := Str) H0 vp_a1 p_a.fVary) (Rp_a2 : Sl (α := Str) H0 vp_a2 p_a.fSnapshot) (Rp_a4 : Sl (α := GField) H0 vp_a4 p_a.fFields) (Rp_b0 : Sl (α := (List Str)) H0 vp_b0 p_b.fKeys) (Rp_b1 : Sl (α := Str) H0 vp_b1 p_b.fVary) (Rp_b2 : Sl (α := Str) H0 vp_b2 p_b.fSnapshot) (Rp_b4 : Sl (α := GField) H0 vp_b4 p_b.fFields) {r : Bool} (h : ref26_Equal p_a p_b = some r) :
    Con Tryd.prog 10 [(agg [vp_a0, vp_a1, vp_a2, (str p_a.fReason), vp_a4, (str p_a.fBody), (int p_a.fRequested), (int p_a.fReceived)]), (agg [vp_b0, vp_b1, vp_b2, (str p_b.fReason), vp_b4, (str p_b.fBody), (int p_b.fRequested), (int p_b.fReceived)])] w0 H0 (fun H' v => v = (boo r)) := by
  refine Con.mk (N := 59) Tryd.func10 rfl rfl (by kernel_rfl) rfl ?_
  have S := St.start hw
  refine WP.seq ?_
  refine WP.region ?_
  refine W.box [vp_a0, vp_a1, vp_a2, (str p_a.fReason), vp_a4, (str p_a.fBody), (int p_a.fRequested), (int p_a.fReceived)] S rfl rfl ?_
  intro b1 w2 S
  refine W.box [vp_b0, vp_b1, vp_b2, (str p_b.fReason), vp_b4, (str p_b.fBody), (int p_b.fRequested), (int p_b.fReceived)] S rfl rfl ?_
  intro b3 w4 S
  refine WL.valw (R.as (v := (boo false)) rfl) ?_
  refine WL.nil ?_
  refine WP.seq ?_
  refine WP.region ?_
  refine WL.valw (R.fieldB rfl fld26_0) ?_
  refine WL.valw (R.loadB (i := 1) (v := vp_a0) S rfl rfl lay22 rfl) ?_
  refine WL.valw (R.fieldB rfl fld26_0) ?_
  refine WL.valw (R.loadB (i := 0) (v := vp_b0) S rfl rfl lay22 rfl) ?_
  obtain ⟨r5, hr5, h⟩ := bindE h
  refine W.call S rfl (ref26_SameKeys_ok S.holds (hG.post S.post) p_a.fKeys p_b.fKeys Rp_a0 Rp_b0 hr5) ?_
  rintro v6 w7 H8 hle9 S rfl
  have Rp_a0 := Sl.mono Rp_a0 hle9
  have Rp_a1 := Sl.mono Rp_a1 hle9
  have Rp_a2 := Sl.mono Rp_a2 hle9
  have Rp_a4 := Sl.mono Rp_a4 hle9
  have Rp_b0 := Sl.mono Rp_b0 hle9
  have Rp_b1 := Sl.mono Rp_b1 hle9
  have Rp_b2 := Sl.mono Rp_b2 hle9
  have Rp_b4 := Sl.mono Rp_b4 hle9
  refine WL.valw (R.mv (v := (boo r5)) rfl) ?_
  obtain ⟨b17, hg11, h⟩ := bindE h
  refine WL.grpw 6 [11, 12, 13, 14, 15] 16 (boo b17) (fun w => ∃ H' : Hp, H8.le H' ∧ St w0 H0 w H' [.box b3 26 [vp_b0, vp_b1, vp_b2, (str p_b.fReason), vp_b4, (str p_b.fBody), (int p_b.fRequested), (int p_b.fReceived)], .box b1 26 [vp_a0, vp_a1, vp_a2, (str p_a.fReason), vp_a4, (str p_a.fBody), (int p_a.fRequested), (int p_a.fReceived)]]) ?_ ?_
  · rcases boolE r5 with hb10 | hb10
    · replace hg11 := condT hg11 hb10
      refine WL.gyes rfl rfl hb10 ?_
      refine WL.valw (R.fieldB rfl fld26_1) ?_
      refine WL.gyes rfl rfl hb10 ?_
      refine WL.valw (R.loadB (i := 1) (v := vp_a1) S rfl rfl lay23 rfl) ?_
      refine WL.gyes rfl rfl hb10 ?_
      refine WL.valw (R.fieldB rfl fld26_1) ?_
      refine WL.gyes rfl rfl hb10 ?_
      refine WL.valw (R.loadB (i := 0) (v := vp_b1) S rfl rfl lay23 rfl) ?_
      refine WL.gyes rfl rfl hb10 ?_
      obtain ⟨r12, hr12, hg11⟩ := bindE hg11
      refine W.call S rfl (ref10_SameStrings_ok S.holds (hG.post S.post) p_a.fVary p_b.fVary Rp_a1 Rp_b1 hr12) ?_
      rintro v13 w14 H15 hle16 S rfl
      have Rp_a0 := Sl.mono Rp_a0 hle16
      have Rp_a1 := Sl.mono Rp_a1 hle16
      have Rp_a2 := Sl.mono Rp_a2 hle16
      have Rp_a4 := Sl.mono Rp_a4 hle16
      have Rp_b0 := Sl.mono Rp_b0 hle16
      have Rp_b1 := Sl.mono Rp_b1 hle16
      have Rp_b2 := Sl.mono Rp_b2 hle16
      have Rp_b4 := Sl.mono Rp_b4 hle16
      refine WL.valw (R.pickT rfl hb10 rfl) ?_
      exact WL.nil ⟨(congrArg boo (Option.some.inj hg11)), (by repeat (first | refine agree_upd rfl ?_ | refine agree_upds' rfl ?_ | exact agree_refl)), ⟨H15, hle16, S⟩⟩
    · replace hg11 := condF hg11 hb10
      refine WL.gno rfl rfl hb10 ?_
      refine WL.gno rfl rfl hb10 ?_
      refine WL.gno rfl rfl hb10 ?_
      refine WL.gno rfl rfl hb10 ?_
      refine WL.gno rfl rfl hb10 ?_
      refine WL.valw (R.pickF rfl hb10 rfl) ?_
      exact WL.nil ⟨(congrArg boo (Option.some.inj hg11)), (by repeat (first | refine agree_upd rfl ?_ | refine agree_upds' rfl ?_ | exact agree_refl)), ⟨H8, (Hp.le.refl _), S⟩⟩
  · intro us w19 ⟨H18, hle20, S⟩
    have Rp_a0 := Sl.mono Rp_a0 hle20
    have Rp_a1 := Sl.mono Rp_a1 hle20
    have Rp_a2 := Sl.mono Rp_a2 hle20
    have Rp_a4 := Sl.mono Rp_a4 hle20
    have Rp_b0 := Sl.mono Rp_b0 hle20
    have Rp_b1 := Sl.mono Rp_b1 hle20
    have Rp_b2 := Sl.mono Rp_b2 hle20
    have Rp_b4 := Sl.mono Rp_b4 hle20
    refine WL.valw (R.mv (v := (boo b17)) rfl) ?_
    obtain ⟨b28, hg22, h⟩ := bindE h
    refine WL.grpw 6 [18, 19, 20, 21, 22] 23 (boo b28) (fun w => ∃ H' : Hp, H18.le H' ∧ St w0 H0 w H' [.box b3 26 [vp_b0, vp_b1, vp_b2, (str p_b.fReason), vp_b4, (str p_b.fBody), (int p_b.fRequested), (int p_b.fReceived)], .box b1 26 [vp_a0, vp_a1, vp_a2, (str p_a.fReason), vp_a4, (str p_a.fBody), (int p_a.fRequested), (int p_a.fReceived)]]) ?_ ?_
    · rcases boolE b17 with hb21 | hb21
      · replace hg22 := condT hg22 hb21
        refine WL.gyes rfl rfl hb21 ?_
        refine WL.valw (R.fieldB rfl fld26_2) ?_
        refine WL.gyes rfl rfl hb21 ?_
        refine WL.valw (R.loadB (i := 1) (v := vp_a2) S rfl rfl lay23 rfl) ?_
        refine WL.gyes rfl rfl hb21 ?_
        refine WL.valw (R.fieldB rfl fld26_2) ?_
        refine WL.gyes rfl rfl hb21 ?_
        refine WL.valw (R.loadB (i := 0) (v := vp_b2) S rfl rfl lay23 rfl) ?_
        refine WL.gyes rfl rfl hb21 ?_
        obtain ⟨r23, hr23, hg22⟩ := bindE hg22
        refine W.call S rfl (ref10_SameStrings_ok S.holds (hG.post S.post) p_a.fSnapshot p_b.fSnapshot Rp_a2 Rp_b2 hr23) ?_
        rintro v24 w25 H26 hle27 S rfl
        have Rp_a0 := Sl.mono Rp_a0 hle27
        have Rp_a1 := Sl.mono Rp_a1 hle27
        have Rp_a2 := Sl.mono Rp_a2 hle27
        have Rp_a4 := Sl.mono Rp_a4 hle27
        have Rp_b0 := Sl.mono Rp_b0 hle27
        have Rp_b1 := Sl.mono Rp_b1 hle27
        have Rp_b2 := Sl.mono Rp_b2 hle27
        have Rp_b4 := Sl.mono Rp_b4 hle27
        refine WL.valw (R.pickT rfl hb21 rfl) ?_
        exact WL.nil ⟨(congrArg boo (Option.some.inj hg22)), (by repeat (first | refine agree_upd rfl ?_ | refine agree_upds' rfl ?_ | exact agree_refl)), ⟨H26, hle27, S⟩⟩
      · replace hg22 := condF hg22 hb21
        refine WL.gno rfl rfl hb21 ?_
        refine WL.gno rfl rfl hb21 ?_
        refine WL.gno rfl rfl hb21 ?_
        refine WL.gno rfl rfl hb21 ?_
        refine WL.gno rfl rfl hb21 ?_
        refine WL.valw (R.pickF rfl hb21 rfl) ?_
        exact WL.nil ⟨(congrArg boo (Option.some.inj hg22)), (by repeat (first | refine agree_upd rfl ?_ | refine agree_upds' rfl ?_ | exact agree_refl)), ⟨H18, (Hp.le.refl _), S⟩⟩
    · intro us w30 ⟨H29, hle31, S⟩
      have Rp_a0 := Sl.mono Rp_a0 hle31
      have Rp_a1 := Sl.mono Rp_a1 hle31
      have Rp_a2 := Sl.mono Rp_a2 hle31
      have Rp_a4 := Sl.mono Rp_a4 hle31
      have Rp_b0 := Sl.mono Rp_b0 hle31
      have Rp_b1 := Sl.mono Rp_b1 hle31
      have Rp_b2 := Sl.mono Rp_b2 hle31
      have Rp_b4 := Sl.mono Rp_b4 hle31
      refine WL.valw (R.mv (v := (boo b28)) rfl) ?_
      refine WL.grp 6 [25, 26, 27, 28, 29] 30 (boo (b28 && (p_a.fReason == p_b.fReason))) ?_ ?_
      · rcases boolE b28 with hb32 | hb32
        · refine WL.gyes rfl rfl hb32 ?_
          refine WL.valw (R.fieldB rfl fld26_3) ?_
          refine WL.gyes rfl rfl hb32 ?_
          refine WL.valw (R.loadB (i := 1) (v := (str p_a.fReason)) S rfl rfl lay9 rfl) ?_
          refine WL.gyes rfl rfl hb32 ?_
          refine WL.valw (R.fieldB rfl fld26_3) ?_
          refine WL.gyes rfl rfl hb32 ?_
          refine WL.valw (R.loadB (i := 0) (v := (str p_b.fReason)) S rfl rfl lay9 rfl) ?_
          refine WL.gyes rfl rfl hb32 ?_
          refine WL.valw (R.eqlS (a := p_a.fReason) (b := p_b.fReason) rfl rfl) ?_
          refine WL.valw (R.pickT rfl hb32 rfl) ?_
          exact WL.nil ⟨(andT hb32), (by repeat (first | refine agree_upd rfl ?_ | refine agree_upds' rfl ?_ | exact agree_refl)), rfl⟩
        · refine WL.gno rfl rfl hb32 ?_
          refine WL.gno rfl rfl hb32 ?_
          refine WL.gno rfl rfl hb32 ?_
          refine WL.gno rfl rfl hb32 ?_
          refine WL.gno rfl rfl hb32 ?_
          refine WL.valw (R.pickF rfl hb32 rfl) ?_
          exact WL.nil ⟨(andF hb32), (by repeat (first | refine agree_upd rfl ?_ | refine agree_upds' rfl ?_ | exact agree_refl)), rfl⟩
      · intro us
        refine WL.valw (R.mv (v := (boo (b28 && (p_a.fReason == p_b.fReason)))) rfl) ?_
        obtain ⟨b41, hg35, h⟩ := bindE h
        refine WL.grpw 6 [32, 33, 34, 35, 36] 37 (boo b41) (fun w => ∃ H' : Hp, H29.le H' ∧ St w0 H0 w H' [.box b3 26 [vp_b0, vp_b1, vp_b2, (str p_b.fReason), vp_b4, (str p_b.fBody), (int p_b.fRequested), (int p_b.fReceived)], .box b1 26 [vp_a0, vp_a1, vp_a2, (str p_a.fReason), vp_a4, (str p_a.fBody), (int p_a.fRequested), (int p_a.fReceived)]]) ?_ ?_
        · rcases boolE (b28 && (p_a.fReason == p_b.fReason)) with hb34 | hb34
          · replace hg35 := condT hg35 hb34
            refine WL.gyes rfl rfl hb34 ?_
            refine WL.valw (R.fieldB rfl fld26_4) ?_
            refine WL.gyes rfl rfl hb34 ?_
            refine WL.valw (R.loadB (i := 1) (v := vp_a4) S rfl rfl lay24 rfl) ?_
            refine WL.gyes rfl rfl hb34 ?_
            refine WL.valw (R.fieldB rfl fld26_4) ?_
            refine WL.gyes rfl rfl hb34 ?_
            refine WL.valw (R.loadB (i := 0) (v := vp_b4) S rfl rfl lay24 rfl) ?_
            refine WL.gyes rfl rfl hb34 ?_
            obtain ⟨r36, hr36, hg35⟩ := bindE hg35
            refine W.call S rfl (ref26_SameFields_ok S.holds (hG.post S.post) p_a.fFields p_b.fFields Rp_a4 Rp_b4 hr36) ?_
            rintro v37 w38 H39 hle40 S rfl
            have Rp_a0 := Sl.mono Rp_a0 hle40
            have Rp_a1 := Sl.mono Rp_a1 hle40
            have Rp_a2 := Sl.mono Rp_a2 hle40
            have Rp_a4 := Sl.mono Rp_a4 hle40
            have Rp_b0 := Sl.mono Rp_b0 hle40
            have Rp_b1 := Sl.mono Rp_b1 hle40
            have Rp_b2 := Sl.mono Rp_b2 hle40
            have Rp_b4 := Sl.mono Rp_b4 hle40
            refine WL.valw (R.pickT rfl hb34 rfl) ?_
            exact WL.nil ⟨(congrArg boo (Option.some.inj hg35)), (by repeat (first | refine agree_upd rfl ?_ | refine agree_upds' rfl ?_ | exact agree_refl)), ⟨H39, hle40, S⟩⟩
          · replace hg35 := condF hg35 hb34
            refine WL.gno rfl rfl hb34 ?_
            refine WL.gno rfl rfl hb34 ?_
            refine WL.gno rfl rfl hb34 ?_
            refine WL.gno rfl rfl hb34 ?_
            refine WL.gno rfl rfl hb34 ?_
            refine WL.valw (R.pickF rfl hb34 rfl) ?_
            exact WL.nil ⟨(congrArg boo (Option.some.inj hg35)), (by repeat (first | refine agree_upd rfl ?_ | refine agree_upds' rfl ?_ | exact agree_refl)), ⟨H29, (Hp.le.refl _), S⟩⟩
        · intro us w43 ⟨H42, hle44, S⟩
          have Rp_a0 := Sl.mono Rp_a0 hle44
          have Rp_a1 := Sl.mono Rp_a1 hle44
          have Rp_a2 := Sl.mono Rp_a2 hle44
          have Rp_a4 := Sl.mono Rp_a4 hle44
          have Rp_b0 := Sl.mono Rp_b0 hle44
          have Rp_b1 := Sl.mono Rp_b1 hle44
          have Rp_b2 := Sl.mono Rp_b2 hle44
          have Rp_b4 := Sl.mono Rp_b4 hle44
          refine WL.valw (R.mv (v := (boo b41)) rfl) ?_
          refine WL.grp 6 [39, 40, 41, 42, 43] 44 (boo (b41 && (p_a.fBody == p_b.fBody))) ?_ ?_
          · rcases boolE b41 with hb45 | hb45
            · refine WL.gyes rfl rfl hb45 ?_
              refine WL.valw (R.fieldB rfl fld26_5) ?_
              refine WL.gyes rfl rfl hb45 ?_
              refine WL.valw (R.loadB (i := 1) (v := (str p_a.fBody)) S rfl rfl lay9 rfl) ?_
              refine WL.gyes rfl rfl hb45 ?_
              refine WL.valw (R.fieldB rfl fld26_5) ?_
              refine WL.gyes rfl rfl hb45 ?_
              refine WL.valw (R.loadB (i := 0) (v := (str p_b.fBody)) S rfl rfl lay9 rfl) ?_
              refine WL.gyes rfl rfl hb45 ?_
              refine WL.valw (R.eqlS (a := p_a.fBody) (b := p_b.fBody) rfl rfl) ?_
              refine WL.valw (R.pickT rfl hb45 rfl) ?_
              exact WL.nil ⟨(andT hb45), (by repeat (first | refine agree_upd rfl ?_ | refine agree_upds' rfl ?_ | exact agree_refl)), rfl⟩
            · refine WL.gno rfl rfl hb45 ?_
              refine WL.gno rfl rfl hb45 ?_
              refine WL.gno rfl rfl hb45 ?_
              refine WL.gno rfl rfl hb45 ?_
              refine WL.gno rfl rfl hb45 ?_
              refine WL.valw (R.pickF rfl hb45 rfl) ?_
              exact WL.nil ⟨(andF hb45), (by repeat (first | refine agree_upd rfl ?_ | refine agree_upds' rfl ?_ | exact agree_refl)), rfl⟩
          · intro us
            refine WL.valw (R.mv (v := (boo (b41 && (p_a.fBody == p_b.fBody)))) rfl) ?_
            refine WL.grp 6 [46, 47, 48, 49, 50] 51 (boo ((b41 && (p_a.fBody == p_b.fBody)) && (p_a.fRequested == p_b.fRequested))) ?_ ?_
            · rcases boolE (b41 && (p_a.fBody == p_b.fBody)) with hb47 | hb47
              · refine WL.gyes rfl rfl hb47 ?_
                refine WL.valw (R.fieldB rfl fld26_6) ?_
                refine WL.gyes rfl rfl hb47 ?_
                refine WL.valw (R.loadB (i := 1) (v := (int p_a.fRequested)) S rfl rfl lay2 rfl) ?_
                refine WL.gyes rfl rfl hb47 ?_
                refine WL.valw (R.fieldB rfl fld26_6) ?_
                refine WL.gyes rfl rfl hb47 ?_
                refine WL.valw (R.loadB (i := 0) (v := (int p_b.fRequested)) S rfl rfl lay2 rfl) ?_
                refine WL.gyes rfl rfl hb47 ?_
                refine WL.valw (R.eql rfl rfl) ?_
                refine WL.valw (R.pickT rfl hb47 rfl) ?_
                exact WL.nil ⟨(andT hb47), (by repeat (first | refine agree_upd rfl ?_ | refine agree_upds' rfl ?_ | exact agree_refl)), rfl⟩
              · refine WL.gno rfl rfl hb47 ?_
                refine WL.gno rfl rfl hb47 ?_
                refine WL.gno rfl rfl hb47 ?_
                refine WL.gno rfl rfl hb47 ?_
                refine WL.gno rfl rfl hb47 ?_
                refine WL.valw (R.pickF rfl hb47 rfl) ?_
                exact WL.nil ⟨(andF hb47), (by repeat (first | refine agree_upd rfl ?_ | refine agree_upds' rfl ?_ | exact agree_refl)), rfl⟩
            · intro us
              refine WL.valw (R.mv (v := (boo ((b41 && (p_a.fBody == p_b.fBody)) && (p_a.fRequested == p_b.fRequested)))) rfl) ?_
              refine WL.grp 6 [53, 54, 55, 56, 57] 58 (boo (((b41 && (p_a.fBody == p_b.fBody)) && (p_a.fRequested == p_b.fRequested)) && (p_a.fReceived == p_b.fReceived))) ?_ ?_
              · rcases boolE ((b41 && (p_a.fBody == p_b.fBody)) && (p_a.fRequested == p_b.fRequested)) with hb49 | hb49
                · refine WL.gyes rfl rfl hb49 ?_
                  refine WL.valw (R.fieldB rfl fld26_7) ?_
                  refine WL.gyes rfl rfl hb49 ?_
                  refine WL.valw (R.loadB (i := 1) (v := (int p_a.fReceived)) S rfl rfl lay2 rfl) ?_
                  refine WL.gyes rfl rfl hb49 ?_
                  refine WL.valw (R.fieldB rfl fld26_7) ?_
                  refine WL.gyes rfl rfl hb49 ?_
                  refine WL.valw (R.loadB (i := 0) (v := (int p_b.fReceived)) S rfl rfl lay2 rfl) ?_
                  refine WL.gyes rfl rfl hb49 ?_
                  refine WL.valw (R.eql rfl rfl) ?_
                  refine WL.valw (R.pickT rfl hb49 rfl) ?_
                  exact WL.nil ⟨(andT hb49), (by repeat (first | refine agree_upd rfl ?_ | refine agree_upds' rfl ?_ | exact agree_refl)), rfl⟩
                · refine WL.gno rfl rfl hb49 ?_
                  refine WL.gno rfl rfl hb49 ?_
                  refine WL.gno rfl rfl hb49 ?_
                  refine WL.gno rfl rfl hb49 ?_
                  refine WL.gno rfl rfl hb49 ?_
                  refine WL.valw (R.pickF rfl hb49 rfl) ?_
                  exact WL.nil ⟨(andF hb49), (by repeat (first | refine agree_upd rfl ?_ | refine agree_upds' rfl ?_ | exact agree_refl)), rfl⟩
              · intro us
                refine WL.valw (R.as (v := (boo (((b41 && (p_a.fBody == p_b.fBody)) && (p_a.fRequested == p_b.fRequested)) && (p_a.fReceived == p_b.fReceived)))) rfl) ?_
                refine WL.nil ?_
                obtain rfl := Option.some.inj h
                refine WP.ret (Out.one rfl S rfl ?_)
                exact rfl
set_option maxRecDepth 10000 in
set_option maxHeartbeats 4000000 in
theorem ref26_OwnEntry_ok {w0 : World} {H0 : Hp} (hw : Holds w0 H0) (hG : Tryd.Gl w0) (p_e : GEntry) {vp_e0 : Value} {vp_e1 : Value} {vp_e2 : Value} {vp_e4 : Value} (Rp_e0 : Sl (α := (List Str)) H0 vp_e0 p_e.fKeys) (Rp_e1 : Sl (α := Str) H0 vp_e1 p_e.fVary) (Rp_e2 : Sl (α := Str) H0 vp_e2 p_e.fSnapshot) (Rp_e4 : Sl (α := GField) H0 vp_e4 p_e.fFields) {r : GEntry} (h : ref26_OwnEntry p_e = some r) :
    Con Tryd.prog 11 [(agg [vp_e0, vp_e1, vp_e2, (str p_e.fReason), vp_e4, (str p_e.fBody), (int p_e.fRequested), (int p_e.fReceived)])] w0 H0 (fun H' v => ∃ u1 u2 u3 u4 : Value, v = (agg [u1, u2, u3, (str r.fReason), u4, (str r.fBody), (int r.fRequested), (int r.fReceived)]) ∧ Sl (α := (List Str)) H' u1 r.fKeys ∧ Sl (α := Str) H' u2 r.fVary ∧ Sl (α := Str) H' u3 r.fSnapshot ∧ Sl (α := GField) H' u4 r.fFields) := by
  refine Con.mk (N := 38) Tryd.func11 rfl rfl (by kernel_rfl) rfl ?_
  have S := St.start hw
  refine WP.seq ?_
  refine WP.region ?_
  refine W.box [vp_e0, vp_e1, vp_e2, (str p_e.fReason), vp_e4, (str p_e.fBody), (int p_e.fRequested), (int p_e.fReceived)] S rfl rfl ?_
  intro b1 w2 S
  refine W.alloc [(.slice none 0 0), (.slice none 0 0), (.slice none 0 0), (str []), (.slice none 0 0), (str []), (int 0), (int 0)] S zer26 ?_
  intro b3 w4 S
  refine WL.nil ?_
  refine WP.seq ?_
  refine WP.region ?_
  refine WL.valw (R.loadBN (i := 1) (vs := [vp_e0, vp_e1, vp_e2, (str p_e.fReason), vp_e4, (str p_e.fBody), (int p_e.fRequested), (int p_e.fReceived)]) S rfl rfl lay26 rfl rfl) ?_
  refine W.alloc [(.slice none 0 0), (.slice none 0 0), (.slice none 0 0), (str []), (.slice none 0 0), (str []), (int 0), (int 0)] S zer26 ?_
  intro b5 w6 S
  refine W.store (i := 0) [vp_e0, vp_e1, vp_e2, (str p_e.fReason), vp_e4, (str p_e.fBody), (int p_e.fRequested), (int p_e.fReceived)] S rfl rfl rfl lay26 rfl (AllOne.all (l := [vp_e0, vp_e1, vp_e2, (str p_e.fReason), vp_e4, (str p_e.fBody), (int p_e.fRequested), (int p_e.fReceived)]) (.cons (Sl.oneC Rp_e0) (.cons (Sl.oneC Rp_e1) (.cons (Sl.oneC Rp_e2) (.cons rfl (.cons (Sl.oneC Rp_e4) (.cons rfl (.cons rfl (.cons rfl .nil))))))))) (Nat.le_of_ble_eq_true rfl) rfl ?_
  intro w7 S
  refine WL.nil ?_
  refine WP.seq ?_
  refine WP.region ?_
  refine WL.valw (R.fieldB rfl fld26_0) ?_
  refine W.store (i := 0) [(.slice none 0 0), vp_e1, vp_e2, (str p_e.fReason), vp_e4, (str p_e.fBody), (int p_e.fRequested), (int p_e.fReceived)] S rfl rfl rfl lay22 rfl (AllOne.all (l := [(.slice none 0 0)]) (.cons rfl .nil)) (Nat.le_of_ble_eq_true rfl) rfl ?_
  intro w8 S
  refine WL.nil ?_
  refine WP.seq ?_
  refine WP.seq ?_
  refine WP.region ?_
  refine WL.valw (R.as (v := (int 0)) rfl) ?_
  refine WL.nil ?_
  obtain ⟨v9, hv10⟩ : ∃ v : Value, v = .slice none 0 0 := ⟨_, rfl⟩
  have R11 : Sl (α := (List Str)) H0 v9 [] := by rw [hv10]; exact Sl.nil
  replace S := (show ∀ {w : World}, St w0 H0 w H0 [.box b5 26 [(.slice none 0 0), vp_e1, vp_e2, (str p_e.fReason), vp_e4, (str p_e.fBody), (int p_e.fRequested), (int p_e.fReceived)], .box b3 26 [(.slice none 0 0), (.slice none 0 0), (.slice none 0 0), (str []), (.slice none 0 0), (str []), (int 0), (int 0)], .box b1 26 [vp_e0, vp_e1, vp_e2, (str p_e.fReason), vp_e4, (str p_e.fBody), (int p_e.fRequested), (int p_e.fReceived)]] → St w0 H0 w H0 [.box b5 26 [v9, vp_e1, vp_e2, (str p_e.fReason), vp_e4, (str p_e.fBody), (int p_e.fRequested), (int p_e.fReceived)], .box b3 26 [(.slice none 0 0), (.slice none 0 0), (.slice none 0 0), (str []), (.slice none 0 0), (str []), (int 0), (int 0)], .box b1 26 [vp_e0, vp_e1, vp_e2, (str p_e.fReason), vp_e4, (str p_e.fBody), (int p_e.fRequested), (int p_e.fReceived)]] from fun S => by rw [hv10]; exact S) S
  replace S := St.addNilV hv10 S 23 1
  obtain ⟨r57, hr58, h⟩ := bindE h
  refine WP.cut (fun f w => match r57 with | (m38, m41, m44, m47, m48, m51, m52, m53) => ∃ (H34 : Hp) (v39 : Value) (v42 : Value) (v45 : Value) (v49 : Value), f 1 = (ptr b1 0) ∧ f 2 = (ptr b3 0) ∧ f 3 = (ptr b5 0) ∧ Sl (α := (List Str)) H34 v39 m38 ∧ Sl (α := Str) H34 v42 m41 ∧ Sl (α := Str) H34 v45 m44 ∧ Sl (α := GField) H34 v49 m48 ∧ Sl (α := (List Str)) H34 vp_e0 p_e.fKeys ∧ Sl (α := Str) H34 vp_e1 p_e.fVary ∧ Sl (α := Str) H34 vp_e2 p_e.fSnapshot ∧ Sl (α := GField) H34 vp_e4 p_e.fFields ∧ St w0 H0 w H34 [.row v39 23 1 m38.length, .box b5 26 [v39, v42, v45, (str m47), v49, (str m51), (int m52), (int m53)], .box b3 26 [(.slice none 0 0), (.slice none 0 0), (.slice none 0 0), (str []), (.slice none 0 0), (str []), (int 0), (int 0)], .box b1 26 [vp_e0, vp_e1, vp_e2, (str p_e.fReason), vp_e4, (str p_e.fBody), (int p_e.fRequested), (int p_e.fReceived)]]) ?_ ?_
  · refine WP.block ?_
    refine WP.loopM (ref26_OwnEntry_L0 p_e) (fun s f w => match s with | (i_16, m18, m21, m24, m27, m28, m31, m32, m33) => ∃ (H12 : Hp) (v19 : Value) (v22 : Value) (v25 : Value) (v29 : Value), f 1 = (ptr b1 0) ∧ f 2 = (ptr b3 0) ∧ f 3 = (ptr b5 0) ∧ f 4 = (int i_16) ∧ Sl (α := (List Str)) H12 v19 m18 ∧ Sl (α := Str) H12 v22 m21 ∧ Sl (α := Str) H12 v25 m24 ∧ Sl (α := GField) H12 v29 m28 ∧ Sl (α := (List Str)) H12 vp_e0 p_e.fKeys ∧ Sl (α := Str) H12 vp_e1 p_e.fVary ∧ Sl (α := Str) H12 vp_e2 p_e.fSnapshot ∧ Sl (α := GField) H12 vp_e4 p_e.fFields ∧ St w0 H0 w H12 [.row v19 23 1 m18.length, .box b5 26 [v19, v22, v25, (str m27), v29, (str m31), (int m32), (int m33)], .box b3 26 [(.slice none 0 0), (.slice none 0 0), (.slice none 0 0), (str []), (.slice none 0 0), (str []), (int 0), (int 0)], .box b1 26 [vp_e0, vp_e1, vp_e2, (str p_e.fReason), vp_e4, (str p_e.fBody), (int p_e.fRequested), (int p_e.fReceived)]]) (0, ([] : List (List Str)), p_e.fVary, p_e.fSnapshot, p_e.fReason, p_e.fFields, p_e.fBody, p_e.fRequested, p_e.fReceived) r57 hr58 ?_ ?_
    · exact ⟨H0, v9, vp_e1, vp_e2, vp_e4, rfl, rfl, rfl, rfl, R11, Rp_e1, Rp_e2, Rp_e4, Rp_e0, Rp_e1, Rp_e2, Rp_e4, S⟩
    · intro s f w hI y54 hy55 hy56
      obtain ⟨i_16, m18, m21, m24, m27, m28, m31, m32, m33⟩ := s
      obtain ⟨H12, v19, v22, v25, v29, h13, h14, h15, h17, R20, R23, R26, R30, Rp_e0, Rp_e1, Rp_e2, Rp_e4, S⟩ := hI
      refine WP.seq ?_
      refine WP.seq ?_
      refine WP.region ?_
      refine WL.valw (R.mv (v := (int i_16)) h17) ?_
      refine WL.valw (R.fieldB h13 fld26_0) ?_
      refine WL.valw (R.loadB (i := 3) (v := vp_e0) S rfl rfl lay22 rfl) ?_
      refine WL.valw (R.lenL (α := (List Str)) (xs := p_e.fKeys) (H := H12) Rp_e0 rfl Tryd.underlying22) ?_
      refine WL.valw (R.lss rfl rfl) ?_
      refine WL.nil ?_
      rcases condE hy55 with ⟨hc59, hy55⟩ | ⟨hc59, hy55⟩
      · refine WP.condT rfl hc59 ?_
        refine WP.skip ?_
        refine WP.seq ?_
        refine WP.block ?_
        refine WP.draw (by kernel_rfl) 12 rfl #[false, false, false, false, false, false, false, false, false, false, false, false] rfl ?_
        have S := S.drew
        refine WA.take (i := 0) #[true, false, false, false, false, false, false, false, false, false, false, false] rfl (by kernel_rfl) (by kernel_rfl) (by kernel_rfl) rfl (fun _ => (R.fieldB h15 fld26_0)) ?_
        refine WA.take (i := 2) #[true, false, true, false, false, false, false, false, false, false, false, false] rfl (by kernel_rfl) (by kernel_rfl) (by kernel_rfl) rfl (fun _ => (R.fieldB h13 fld26_0)) ?_
        refine WA.take (i := 4) #[true, false, true, false, true, false, false, false, false, false, false, false] rfl (by kernel_rfl) (by kernel_rfl) (by kernel_rfl) rfl (fun _ => (R.mv (v := (int i_16)) h17)) ?_
        refine WA.two (i := 1) (j := 3) #[true, true, true, false, true, false, false, false, false, false, false, false] #[true, false, true, true, true, false, false, false, false, false, false, false] rfl rfl (by kernel_rfl) rfl rfl ?_ ?_
        · refine WL.valw (R.loadB (i := 1) (v := v19) S rfl rfl lay22 rfl) ?_
          refine WL.nil ?_
          refine WA.one (i := 3) #[true, true, true, true, true, false, false, false, false, false, false, false] rfl (by kernel_rfl) rfl ?_
          refine WL.valw (R.loadB (i := 3) (v := vp_e0) S rfl rfl lay22 rfl) ?_
          refine WL.nil ?_
          refine WA.one (i := 5) #[true, true, true, true, true, true, false, false, false, false, false, false] rfl (by kernel_rfl) rfl ?_
          obtain ⟨x60, hx60, hy55⟩ := bindE hy55
          refine W.idx (α := (List Str)) Rp_e0 rfl rfl el22 hx60 ?_
          rintro a61 _ hA62 ⟨v63, rfl, R64⟩
          refine WL.nil ?_
          refine WA.one (i := 6) #[true, true, true, true, true, true, true, false, false, false, false, false] rfl (by kernel_rfl) rfl ?_
          refine WL.valw (R.loadH (v := v63) S rfl hA62 lay23 rfl) ?_
          refine WL.nil ?_
          refine WA.one (i := 7) #[true, true, true, true, true, true, true, true, false, false, false, false] rfl (by kernel_rfl) rfl ?_
          have S := S.addNil 9 1
          obtain ⟨l65, hl65, hy55⟩ := bindE hy55
          refine W.app (α := Str) (i := 0) S el23 rfl rfl rfl Sl.nil R64 hl65 ?_
          intro v66 w67 H68 hle69 R70 S
          have Rp_e0 := Sl.mono Rp_e0 hle69
          have R20 := Sl.mono R20 hle69
          have hA62 := At.mono hA62 hle69 (by simp)
          have R64 := Sl.mono R64 hle69
          have R23 := Sl.mono R23 hle69
          have R26 := Sl.mono R26 hle69
          have R30 := Sl.mono R30 hle69
          have Rp_e1 := Sl.mono Rp_e1 hle69
          have Rp_e2 := Sl.mono Rp_e2 hle69
          have Rp_e4 := Sl.mono Rp_e4 hle69
          refine WL.nil ?_
          refine WA.one (i := 8) #[true, true, true, true, true, true, true, true, true, false, false, false] rfl (by kernel_rfl) rfl ?_
          refine W.bslice (α := (List Str)) [v66] ([l65] : List (List Str)) S el22 rfl rfl rfl (by decide) (Go.Eng.encS ⟨(by rw [Sl.cellsOne R70]; rfl), _, (by rw [Sl.cellsOne R70]), R70⟩ enc0) ?_
          intro u71 w72 H73 hle74 R75 S
          have Rp_e0 := Sl.mono Rp_e0 hle74
          have R20 := Sl.mono R20 hle74
          have hA62 := At.mono hA62 hle74 (by simp)
          have R64 := Sl.mono R64 hle74
          have R70 := Sl.mono R70 hle74
          have R23 := Sl.mono R23 hle74
          have R26 := Sl.mono R26 hle74
          have R30 := Sl.mono R30 hle74
          have Rp_e1 := Sl.mono Rp_e1 hle74
          have Rp_e2 := Sl.mono Rp_e2 hle74
          have Rp_e4 := Sl.mono Rp_e4 hle74
          refine WL.nil ?_
          refine WA.one (i := 9) #[true, true, true, true, true, true, true, true, true, true, false, false] rfl (by kernel_rfl) rfl ?_
          obtain ⟨l76, hl76, hy55⟩ := bindE hy55
          refine W.app (α := (List Str)) (i := 2) S el22 rfl rfl rfl R20 R75 hl76 ?_
          intro v77 w78 H79 hle80 R81 S
          have Rp_e0 := Sl.mono Rp_e0 hle80
          have R20 := Sl.mono R20 hle80
          have hA62 := At.mono hA62 hle80 (by simp)
          have R64 := Sl.mono R64 hle80
          have R70 := Sl.mono R70 hle80
          have R75 := Sl.mono R75 hle80
          have R23 := Sl.mono R23 hle80
          have R26 := Sl.mono R26 hle80
          have R30 := Sl.mono R30 hle80
          have Rp_e1 := Sl.mono Rp_e1 hle80
          have Rp_e2 := Sl.mono Rp_e2 hle80
          have Rp_e4 := Sl.mono Rp_e4 hle80
          refine WL.nil ?_
          refine WA.take (i := 10) #[true, true, true, true, true, true, true, true, true, true, true, false] rfl (by kernel_rfl) (by kernel_rfl) (by kernel_rfl) rfl (fun _ => (R.fieldB h15 fld26_0)) ?_
          refine WA.one (i := 11) #[true, true, true, true, true, true, true, true, true, true, true, true] rfl (by kernel_rfl) rfl ?_
          refine W.storeSl (α := (List Str)) (i := 3) [v77, v22, v25, (str m27), v29, (str m31), (int m32), (int m33)] S R81 rfl rfl rfl lay22 (Nat.le_of_ble_eq_true rfl) rfl ?_
          intro w82 S
          refine WL.nil ?_
          refine WA.done (by kernel_rfl) ?_
          refine WP.region ?_
          refine WL.valw (R.mv (v := (int i_16)) h17) ?_
          refine WL.valw (R.add rfl rfl) ?_
          refine WL.valw (R.as (v := (int (wr (i_16 + 1)))) rfl) ?_
          refine WL.nil ?_
          obtain rfl := Option.some.inj hy55
          exact ⟨rfl, ⟨H79, v77, v22, v25, v29, h13, h14, h15, rfl, R81, R23, R26, R30, Rp_e0, Rp_e1, Rp_e2, Rp_e4, (S.drop _ (.cons _ (.cons _ (.cons_cons _ (.cons_cons _ (.cons_cons _ (.cons_cons _ .slnil)))))))⟩⟩
        · refine WL.valw (R.loadB (i := 3) (v := vp_e0) S rfl rfl lay22 rfl) ?_
          refine WL.nil ?_
          refine WA.two (i := 1) (j := 5) #[true, true, true, true, true, false, false, false, false, false, false, false] #[true, false, true, true, true, true, false, false, false, false, false, false] rfl rfl (by kernel_rfl) rfl rfl ?_ ?_
          · refine WL.valw (R.loadB (i := 1) (v := v19) S rfl rfl lay22 rfl) ?_
            refine WL.nil ?_
            refine WA.one (i := 5) #[true, true, true, true, true, true, false, false, false, false, false, false] rfl (by kernel_rfl) rfl ?_
            obtain ⟨x60, hx60, hy55⟩ := bindE hy55
            refine W.idx (α := (List Str)) Rp_e0 rfl rfl el22 hx60 ?_
            rintro a61 _ hA62 ⟨v63, rfl, R64⟩
            refine WL.nil ?_
            refine WA.one (i := 6) #[true, true, true, true, true, true, true, false, false, false, false, false] rfl (by kernel_rfl) rfl ?_
            refine WL.valw (R.loadH (v := v63) S rfl hA62 lay23 rfl) ?_
            refine WL.nil ?_
            refine WA.one (i := 7) #[true, true, true, true, true, true, true, true, false, false, false, false] rfl (by kernel_rfl) rfl ?_
            have S := S.addNil 9 1
            obtain ⟨l65, hl65, hy55⟩ := bindE hy55
            refine W.app (α := Str) (i := 0) S el23 rfl rfl rfl Sl.nil R64 hl65 ?_
            intro v66 w67 H68 hle69 R70 S
            have Rp_e0 := Sl.mono Rp_e0 hle69
            have R20 := Sl.mono R20 hle69
            have hA62 := At.mono hA62 hle69 (by simp)
            have R64 := Sl.mono R64 hle69
            have R23 := Sl.mono R23 hle69
            have R26 := Sl.mono R26 hle69
            have R30 := Sl.mono R30 hle69
            have Rp_e1 := Sl.mono Rp_e1 hle69
            have Rp_e2 := Sl.mono Rp_e2 hle69
            have Rp_e4 := Sl.mono Rp_e4 hle69
            refine WL.nil ?_
            refine WA.one (i := 8) #[true, true, true, true, true, true, true, true, true, false, false, false] rfl (by kernel_rfl) rfl ?_
            refine W.bslice (α := (List Str)) [v66] ([l65] : List (List Str)) S el22 rfl rfl rfl (by decide) (Go.Eng.encS ⟨(by rw [Sl.cellsOne R70]; rfl), _, (by rw [Sl.cellsOne R70]), R70⟩ enc0) ?_
            intro u71 w72 H73 hle74 R75 S
            have Rp_e0 := Sl.mono Rp_e0 hle74
            have R20 := Sl.mono R20 hle74
            have hA62 := At.mono hA62 hle74 (by simp)
            have R64 := Sl.mono R64 hle74
            have R70 := Sl.mono R70 hle74
            have R23 := Sl.mono R23 hle74
            have R26 := Sl.mono R26 hle74
            have R30 := Sl.mono R30 hle74
            have Rp_e1 := Sl.mono Rp_e1 hle74
            have Rp_e2 := Sl.mono Rp_e2 hle74
            have Rp_e4 := Sl.mono Rp_e4 hle74
            refine WL.nil ?_
            refine WA.one (i := 9) #[true, true, true, true, true, true, true, true, true, true, false, false] rfl (by kernel_rfl) rfl ?_
            obtain ⟨l76, hl76, hy55⟩ := bindE hy55
            refine W.app (α := (List Str)) (i := 2) S el22 rfl rfl rfl R20 R75 hl76 ?_
            intro v77 w78 H79 hle80 R81 S
            have Rp_e0 := Sl.mono Rp_e0 hle80
            have R20 := Sl.mono R20 hle80
            have hA62 := At.mono hA62 hle80 (by simp)
            have R64 := Sl.mono R64 hle80
            have R70 := Sl.mono R70 hle80
            have R75 := Sl.mono R75 hle80
            have R23 := Sl.mono R23 hle80
            have R26 := Sl.mono R26 hle80
            have R30 := Sl.mono R30 hle80
            have Rp_e1 := Sl.mono Rp_e1 hle80
            have Rp_e2 := Sl.mono Rp_e2 hle80
            have Rp_e4 := Sl.mono Rp_e4 hle80
            refine WL.nil ?_
            refine WA.take (i := 10) #[true, true, true, true, true, true, true, true, true, true, true, false] rfl (by kernel_rfl) (by kernel_rfl) (by kernel_rfl) rfl (fun _ => (R.fieldB h15 fld26_0)) ?_
            refine WA.one (i := 11) #[true, true, true, true, true, true, true, true, true, true, true, true] rfl (by kernel_rfl) rfl ?_
            refine W.storeSl (α := (List Str)) (i := 3) [v77, v22, v25, (str m27), v29, (str m31), (int m32), (int m33)] S R81 rfl rfl rfl lay22 (Nat.le_of_ble_eq_true rfl) rfl ?_
            intro w82 S
            refine WL.nil ?_
            refine WA.done (by kernel_rfl) ?_
            refine WP.region ?_
            refine WL.valw (R.mv (v := (int i_16)) h17) ?_
            refine WL.valw (R.add rfl rfl) ?_
            refine WL.valw (R.as (v := (int (wr (i_16 + 1)))) rfl) ?_
            refine WL.nil ?_
            obtain rfl := Option.some.inj hy55
            exact ⟨rfl, ⟨H79, v77, v22, v25, v29, h13, h14, h15, rfl, R81, R23, R26, R30, Rp_e0, Rp_e1, Rp_e2, Rp_e4, (S.drop _ (.cons _ (.cons _ (.cons_cons _ (.cons_cons _ (.cons_cons _ (.cons_cons _ .slnil)))))))⟩⟩
          · obtain ⟨x60, hx60, hy55⟩ := bindE hy55
            refine W.idx (α := (List Str)) Rp_e0 rfl rfl el22 hx60 ?_
            rintro a61 _ hA62 ⟨v63, rfl, R64⟩
            refine WL.nil ?_
            refine WA.two (i := 1) (j := 6) #[true, true, true, true, true, true, false, false, false, false, false, false] #[true, false, true, true, true, true, true, false, false, false, false, false] rfl rfl (by kernel_rfl) rfl rfl ?_ ?_
            · refine WL.valw (R.loadB (i := 1) (v := v19) S rfl rfl lay22 rfl) ?_
              refine WL.nil ?_
              refine WA.one (i := 6) #[true, true, true, true, true, true, true, false, false, false, false, false] rfl (by kernel_rfl) rfl ?_
              refine WL.valw (R.loadH (v := v63) S rfl hA62 lay23 rfl) ?_
              refine WL.nil ?_
              refine WA.one (i := 7) #[true, true, true, true, true, true, true, true, false, false, false, false] rfl (by kernel_rfl) rfl ?_
              have S := S.addNil 9 1
              obtain ⟨l65, hl65, hy55⟩ := bindE hy55
              refine W.app (α := Str) (i := 0) S el23 rfl rfl rfl Sl.nil R64 hl65 ?_
              intro v66 w67 H68 hle69 R70 S
              have Rp_e0 := Sl.mono Rp_e0 hle69
              have hA62 := At.mono hA62 hle69 (by simp)
              have R64 := Sl.mono R64 hle69
              have R20 := Sl.mono R20 hle69
              have R23 := Sl.mono R23 hle69
              have R26 := Sl.mono R26 hle69
              have R30 := Sl.mono R30 hle69
              have Rp_e1 := Sl.mono Rp_e1 hle69
              have Rp_e2 := Sl.mono Rp_e2 hle69
              have Rp_e4 := Sl.mono Rp_e4 hle69
              refine WL.nil ?_
              refine WA.one (i := 8) #[true, true, true, true, true, true, true, true, true, false, false, false] rfl (by kernel_rfl) rfl ?_
              refine W.bslice (α := (List Str)) [v66] ([l65] : List (List Str)) S el22 rfl rfl rfl (by decide) (Go.Eng.encS ⟨(by rw [Sl.cellsOne R70]; rfl), _, (by rw [Sl.cellsOne R70]), R70⟩ enc0) ?_
              intro u71 w72 H73 hle74 R75 S
              have Rp_e0 := Sl.mono Rp_e0 hle74
              have hA62 := At.mono hA62 hle74 (by simp)
              have R64 := Sl.mono R64 hle74
              have R20 := Sl.mono R20 hle74
              have R70 := Sl.mono R70 hle74
              have R23 := Sl.mono R23 hle74
              have R26 := Sl.mono R26 hle74
              have R30 := Sl.mono R30 hle74
              have Rp_e1 := Sl.mono Rp_e1 hle74
              have Rp_e2 := Sl.mono Rp_e2 hle74
              have Rp_e4 := Sl.mono Rp_e4 hle74
              refine WL.nil ?_
              refine WA.one (i := 9) #[true, true, true, true, true, true, true, true, true, true, false, false] rfl (by kernel_rfl) rfl ?_
              obtain ⟨l76, hl76, hy55⟩ := bindE hy55
              refine W.app (α := (List Str)) (i := 2) S el22 rfl rfl rfl R20 R75 hl76 ?_
              intro v77 w78 H79 hle80 R81 S
              have Rp_e0 := Sl.mono Rp_e0 hle80
              have hA62 := At.mono hA62 hle80 (by simp)
              have R64 := Sl.mono R64 hle80
              have R20 := Sl.mono R20 hle80
              have R70 := Sl.mono R70 hle80
              have R75 := Sl.mono R75 hle80
              have R23 := Sl.mono R23 hle80
              have R26 := Sl.mono R26 hle80
              have R30 := Sl.mono R30 hle80
              have Rp_e1 := Sl.mono Rp_e1 hle80
              have Rp_e2 := Sl.mono Rp_e2 hle80
              have Rp_e4 := Sl.mono Rp_e4 hle80
              refine WL.nil ?_
              refine WA.take (i := 10) #[true, true, true, true, true, true, true, true, true, true, true, false] rfl (by kernel_rfl) (by kernel_rfl) (by kernel_rfl) rfl (fun _ => (R.fieldB h15 fld26_0)) ?_
              refine WA.one (i := 11) #[true, true, true, true, true, true, true, true, true, true, true, true] rfl (by kernel_rfl) rfl ?_
              refine W.storeSl (α := (List Str)) (i := 3) [v77, v22, v25, (str m27), v29, (str m31), (int m32), (int m33)] S R81 rfl rfl rfl lay22 (Nat.le_of_ble_eq_true rfl) rfl ?_
              intro w82 S
              refine WL.nil ?_
              refine WA.done (by kernel_rfl) ?_
              refine WP.region ?_
              refine WL.valw (R.mv (v := (int i_16)) h17) ?_
              refine WL.valw (R.add rfl rfl) ?_
              refine WL.valw (R.as (v := (int (wr (i_16 + 1)))) rfl) ?_
              refine WL.nil ?_
              obtain rfl := Option.some.inj hy55
              exact ⟨rfl, ⟨H79, v77, v22, v25, v29, h13, h14, h15, rfl, R81, R23, R26, R30, Rp_e0, Rp_e1, Rp_e2, Rp_e4, (S.drop _ (.cons _ (.cons _ (.cons_cons _ (.cons_cons _ (.cons_cons _ (.cons_cons _ .slnil)))))))⟩⟩
            · refine WL.valw (R.loadH (v := v63) S rfl hA62 lay23 rfl) ?_
              refine WL.nil ?_
              refine WA.two (i := 1) (j := 7) #[true, true, true, true, true, true, true, false, false, false, false, false] #[true, false, true, true, true, true, true, true, false, false, false, false] rfl rfl (by kernel_rfl) rfl rfl ?_ ?_
              · refine WL.valw (R.loadB (i := 1) (v := v19) S rfl rfl lay22 rfl) ?_
                refine WL.nil ?_
                refine WA.one (i := 7) #[true, true, true, true, true, true, true, true, false, false, false, false] rfl (by kernel_rfl) rfl ?_
                have S := S.addNil 9 1
                obtain ⟨l65, hl65, hy55⟩ := bindE hy55
                refine W.app (α := Str) (i := 0) S el23 rfl rfl rfl Sl.nil R64 hl65 ?_
                intro v66 w67 H68 hle69 R70 S
                have Rp_e0 := Sl.mono Rp_e0 hle69
                have hA62 := At.mono hA62 hle69 (by simp)
                have R64 := Sl.mono R64 hle69
                have R20 := Sl.mono R20 hle69
                have R23 := Sl.mono R23 hle69
                have R26 := Sl.mono R26 hle69
                have R30 := Sl.mono R30 hle69
                have Rp_e1 := Sl.mono Rp_e1 hle69
                have Rp_e2 := Sl.mono Rp_e2 hle69
                have Rp_e4 := Sl.mono Rp_e4 hle69
                refine WL.nil ?_
                refine WA.one (i := 8) #[true, true, true, true, true, true, true, true, true, false, false, false] rfl (by kernel_rfl) rfl ?_
                refine W.bslice (α := (List Str)) [v66] ([l65] : List (List Str)) S el22 rfl rfl rfl (by decide) (Go.Eng.encS ⟨(by rw [Sl.cellsOne R70]; rfl), _, (by rw [Sl.cellsOne R70]), R70⟩ enc0) ?_
                intro u71 w72 H73 hle74 R75 S
                have Rp_e0 := Sl.mono Rp_e0 hle74
                have hA62 := At.mono hA62 hle74 (by simp)
                have R64 := Sl.mono R64 hle74
                have R20 := Sl.mono R20 hle74
                have R70 := Sl.mono R70 hle74
                have R23 := Sl.mono R23 hle74
                have R26 := Sl.mono R26 hle74
                have R30 := Sl.mono R30 hle74
                have Rp_e1 := Sl.mono Rp_e1 hle74
                have Rp_e2 := Sl.mono Rp_e2 hle74
                have Rp_e4 := Sl.mono Rp_e4 hle74
                refine WL.nil ?_
                refine WA.one (i := 9) #[true, true, true, true, true, true, true, true, true, true, false, false] rfl (by kernel_rfl) rfl ?_
                obtain ⟨l76, hl76, hy55⟩ := bindE hy55
                refine W.app (α := (List Str)) (i := 2) S el22 rfl rfl rfl R20 R75 hl76 ?_
                intro v77 w78 H79 hle80 R81 S
                have Rp_e0 := Sl.mono Rp_e0 hle80
                have hA62 := At.mono hA62 hle80 (by simp)
                have R64 := Sl.mono R64 hle80
                have R20 := Sl.mono R20 hle80
                have R70 := Sl.mono R70 hle80
                have R75 := Sl.mono R75 hle80
                have R23 := Sl.mono R23 hle80
                have R26 := Sl.mono R26 hle80
                have R30 := Sl.mono R30 hle80
                have Rp_e1 := Sl.mono Rp_e1 hle80
                have Rp_e2 := Sl.mono Rp_e2 hle80
                have Rp_e4 := Sl.mono Rp_e4 hle80
                refine WL.nil ?_
                refine WA.take (i := 10) #[true, true, true, true, true, true, true, true, true, true, true, false] rfl (by kernel_rfl) (by kernel_rfl) (by kernel_rfl) rfl (fun _ => (R.fieldB h15 fld26_0)) ?_
                refine WA.one (i := 11) #[true, true, true, true, true, true, true, true, true, true, true, true] rfl (by kernel_rfl) rfl ?_
                refine W.storeSl (α := (List Str)) (i := 3) [v77, v22, v25, (str m27), v29, (str m31), (int m32), (int m33)] S R81 rfl rfl rfl lay22 (Nat.le_of_ble_eq_true rfl) rfl ?_
                intro w82 S
                refine WL.nil ?_
                refine WA.done (by kernel_rfl) ?_
                refine WP.region ?_
                refine WL.valw (R.mv (v := (int i_16)) h17) ?_
                refine WL.valw (R.add rfl rfl) ?_
                refine WL.valw (R.as (v := (int (wr (i_16 + 1)))) rfl) ?_
                refine WL.nil ?_
                obtain rfl := Option.some.inj hy55
                exact ⟨rfl, ⟨H79, v77, v22, v25, v29, h13, h14, h15, rfl, R81, R23, R26, R30, Rp_e0, Rp_e1, Rp_e2, Rp_e4, (S.drop _ (.cons _ (.cons _ (.cons_cons _ (.cons_cons _ (.cons_cons _ (.cons_cons _ .slnil)))))))⟩⟩
              · have S := S.addNil 9 1
                obtain ⟨l65, hl65, hy55⟩ := bindE hy55
                refine W.app (α := Str) (i := 0) S el23 rfl rfl rfl Sl.nil R64 hl65 ?_
                intro v66 w67 H68 hle69 R70 S
                have Rp_e0 := Sl.mono Rp_e0 hle69
                have hA62 := At.mono hA62 hle69 (by simp)
                have R64 := Sl.mono R64 hle69
                have R20 := Sl.mono R20 hle69
                have R23 := Sl.mono R23 hle69
                have R26 := Sl.mono R26 hle69
                have R30 := Sl.mono R30 hle69
                have Rp_e1 := Sl.mono Rp_e1 hle69
                have Rp_e2 := Sl.mono Rp_e2 hle69
                have Rp_e4 := Sl.mono Rp_e4 hle69
                refine WL.nil ?_
                refine WA.two (i := 1) (j := 8) #[true, true, true, true, true, true, true, true, false, false, false, false] #[true, false, true, true, true, true, true, true, true, false, false, false] rfl rfl (by kernel_rfl) rfl rfl ?_ ?_
                · refine WL.valw (R.loadB (i := 2) (v := v19) S rfl rfl lay22 rfl) ?_
                  refine WL.nil ?_
                  refine WA.one (i := 8) #[true, true, true, true, true, true, true, true, true, false, false, false] rfl (by kernel_rfl) rfl ?_
                  refine W.bslice (α := (List Str)) [v66] ([l65] : List (List Str)) S el22 rfl rfl rfl (by decide) (Go.Eng.encS ⟨(by rw [Sl.cellsOne R70]; rfl), _, (by rw [Sl.cellsOne R70]), R70⟩ enc0) ?_
                  intro u71 w72 H73 hle74 R75 S
                  have Rp_e0 := Sl.mono Rp_e0 hle74
                  have hA62 := At.mono hA62 hle74 (by simp)
                  have R64 := Sl.mono R64 hle74
                  have R70 := Sl.mono R70 hle74
                  have R20 := Sl.mono R20 hle74
                  have R23 := Sl.mono R23 hle74
                  have R26 := Sl.mono R26 hle74
                  have R30 := Sl.mono R30 hle74
                  have Rp_e1 := Sl.mono Rp_e1 hle74
                  have Rp_e2 := Sl.mono Rp_e2 hle74
                  have Rp_e4 := Sl.mono Rp_e4 hle74
                  refine WL.nil ?_
                  refine WA.one (i := 9) #[true, true, true, true, true, true, true, true, true, true, false, false] rfl (by kernel_rfl) rfl ?_
                  obtain ⟨l76, hl76, hy55⟩ := bindE hy55
                  refine W.app (α := (List Str)) (i := 2) S el22 rfl rfl rfl R20 R75 hl76 ?_
                  intro v77 w78 H79 hle80 R81 S
                  have Rp_e0 := Sl.mono Rp_e0 hle80
                  have hA62 := At.mono hA62 hle80 (by simp)
                  have R64 := Sl.mono R64 hle80
                  have R70 := Sl.mono R70 hle80
                  have R20 := Sl.mono R20 hle80
                  have R75 := Sl.mono R75 hle80
                  have R23 := Sl.mono R23 hle80
                  have R26 := Sl.mono R26 hle80
                  have R30 := Sl.mono R30 hle80
                  have Rp_e1 := Sl.mono Rp_e1 hle80
                  have Rp_e2 := Sl.mono Rp_e2 hle80
                  have Rp_e4 := Sl.mono Rp_e4 hle80
                  refine WL.nil ?_
                  refine WA.take (i := 10) #[true, true, true, true, true, true, true, true, true, true, true, false] rfl (by kernel_rfl) (by kernel_rfl) (by kernel_rfl) rfl (fun _ => (R.fieldB h15 fld26_0)) ?_
                  refine WA.one (i := 11) #[true, true, true, true, true, true, true, true, true, true, true, true] rfl (by kernel_rfl) rfl ?_
                  refine W.storeSl (α := (List Str)) (i := 3) [v77, v22, v25, (str m27), v29, (str m31), (int m32), (int m33)] S R81 rfl rfl rfl lay22 (Nat.le_of_ble_eq_true rfl) rfl ?_
                  intro w82 S
                  refine WL.nil ?_
                  refine WA.done (by kernel_rfl) ?_
                  refine WP.region ?_
                  refine WL.valw (R.mv (v := (int i_16)) h17) ?_
                  refine WL.valw (R.add rfl rfl) ?_
                  refine WL.valw (R.as (v := (int (wr (i_16 + 1)))) rfl) ?_
                  refine WL.nil ?_
                  obtain rfl := Option.some.inj hy55
                  exact ⟨rfl, ⟨H79, v77, v22, v25, v29, h13, h14, h15, rfl, R81, R23, R26, R30, Rp_e0, Rp_e1, Rp_e2, Rp_e4, (S.drop _ (.cons _ (.cons _ (.cons_cons _ (.cons_cons _ (.cons_cons _ (.cons_cons _ .slnil)))))))⟩⟩
                · refine W.bslice (α := (List Str)) [v66] ([l65] : List (List Str)) S el22 rfl rfl rfl (by decide) (Go.Eng.encS ⟨(by rw [Sl.cellsOne R70]; rfl), _, (by rw [Sl.cellsOne R70]), R70⟩ enc0) ?_
                  intro u71 w72 H73 hle74 R75 S
                  have Rp_e0 := Sl.mono Rp_e0 hle74
                  have hA62 := At.mono hA62 hle74 (by simp)
                  have R64 := Sl.mono R64 hle74
                  have R70 := Sl.mono R70 hle74
                  have R20 := Sl.mono R20 hle74
                  have R23 := Sl.mono R23 hle74
                  have R26 := Sl.mono R26 hle74
                  have R30 := Sl.mono R30 hle74
                  have Rp_e1 := Sl.mono Rp_e1 hle74
                  have Rp_e2 := Sl.mono Rp_e2 hle74
                  have Rp_e4 := Sl.mono Rp_e4 hle74
                  refine WL.nil ?_
                  refine WA.one (i := 1) #[true, true, true, true, true, true, true, true, true, false, false, false] rfl (by kernel_rfl) rfl ?_
                  refine WL.valw (R.loadB (i := 3) (v := v19) S rfl rfl lay22 rfl) ?_
                  refine WL.nil ?_
                  refine WA.one (i := 9) #[true, true, true, true, true, true, true, true, true, true, false, false] rfl (by kernel_rfl) rfl ?_
                  obtain ⟨l76, hl76, hy55⟩ := bindE hy55
                  refine W.app (α := (List Str)) (i := 2) S el22 rfl rfl rfl R20 R75 hl76 ?_
                  intro v77 w78 H79 hle80 R81 S
                  have Rp_e0 := Sl.mono Rp_e0 hle80
                  have hA62 := At.mono hA62 hle80 (by simp)
                  have R64 := Sl.mono R64 hle80
                  have R70 := Sl.mono R70 hle80
                  have R75 := Sl.mono R75 hle80
                  have R20 := Sl.mono R20 hle80
                  have R23 := Sl.mono R23 hle80
                  have R26 := Sl.mono R26 hle80
                  have R30 := Sl.mono R30 hle80
                  have Rp_e1 := Sl.mono Rp_e1 hle80
                  have Rp_e2 := Sl.mono Rp_e2 hle80
                  have Rp_e4 := Sl.mono Rp_e4 hle80
                  refine WL.nil ?_
                  refine WA.take (i := 10) #[true, true, true, true, true, true, true, true, true, true, true, false] rfl (by kernel_rfl) (by kernel_rfl) (by kernel_rfl) rfl (fun _ => (R.fieldB h15 fld26_0)) ?_
                  refine WA.one (i := 11) #[true, true, true, true, true, true, true, true, true, true, true, true] rfl (by kernel_rfl) rfl ?_
                  refine W.storeSl (α := (List Str)) (i := 3) [v77, v22, v25, (str m27), v29, (str m31), (int m32), (int m33)] S R81 rfl rfl rfl lay22 (Nat.le_of_ble_eq_true rfl) rfl ?_
                  intro w82 S
                  refine WL.nil ?_
                  refine WA.done (by kernel_rfl) ?_
                  refine WP.region ?_
                  refine WL.valw (R.mv (v := (int i_16)) h17) ?_
                  refine WL.valw (R.add rfl rfl) ?_
                  refine WL.valw (R.as (v := (int (wr (i_16 + 1)))) rfl) ?_
                  refine WL.nil ?_
                  obtain rfl := Option.some.inj hy55
                  exact ⟨rfl, ⟨H79, v77, v22, v25, v29, h13, h14, h15, rfl, R81, R23, R26, R30, Rp_e0, Rp_e1, Rp_e2, Rp_e4, (S.drop _ (.cons _ (.cons _ (.cons_cons _ (.cons_cons _ (.cons_cons _ (.cons_cons _ .slnil)))))))⟩⟩
      · refine WP.condF rfl hc59 ?_
        refine WP.exit ?_
        obtain rfl := Option.some.inj hy55
        obtain rfl := hy56
        exact ⟨H12, v19, v22, v25, v29, h13, h14, h15, R20, R23, R26, R30, Rp_e0, Rp_e1, Rp_e2, Rp_e4, S⟩
  · intro f w hM
    obtain ⟨m38, m41, m44, m47, m48, m51, m52, m53⟩ := r57
    obtain ⟨H34, v39, v42, v45, v49, h35, h36, h37, R40, R43, R46, R50, Rp_e0, Rp_e1, Rp_e2, Rp_e4, S⟩ := hM
    refine WP.seq ?_
    refine WP.region ?_
    refine WL.valw (R.fieldB h35 fld26_1) ?_
    refine WL.valw (R.loadB (i := 3) (v := vp_e1) S rfl rfl lay23 rfl) ?_
    have S := S.addNil 9 1
    obtain ⟨l83, hl83, h⟩ := bindE h
    refine W.app (α := Str) (i := 0) S el23 rfl rfl rfl Sl.nil Rp_e1 hl83 ?_
    intro v84 w85 H86 hle87 R88 S
    have Rp_e1 := Sl.mono Rp_e1 hle87
    have R40 := Sl.mono R40 hle87
    have R43 := Sl.mono R43 hle87
    have R46 := Sl.mono R46 hle87
    have R50 := Sl.mono R50 hle87
    have Rp_e0 := Sl.mono Rp_e0 hle87
    have Rp_e2 := Sl.mono Rp_e2 hle87
    have Rp_e4 := Sl.mono Rp_e4 hle87
    refine WL.valw (R.fieldB h37 fld26_1) ?_
    refine W.storeSl (α := Str) (i := 2) [v39, v84, v45, (str m47), v49, (str m51), (int m52), (int m53)] S R88 rfl rfl rfl lay23 (Nat.le_of_ble_eq_true rfl) rfl ?_
    intro w89 S
    refine WL.nil ?_
    refine WP.seq ?_
    refine WP.region ?_
    refine WL.valw (R.fieldB h35 fld26_2) ?_
    refine WL.valw (R.loadB (i := 4) (v := vp_e2) S rfl rfl lay23 rfl) ?_
    have S := S.addNil 9 1
    obtain ⟨l90, hl90, h⟩ := bindE h
    refine W.app (α := Str) (i := 0) S el23 rfl rfl rfl Sl.nil Rp_e2 hl90 ?_
    intro v91 w92 H93 hle94 R95 S
    have Rp_e1 := Sl.mono Rp_e1 hle94
    have R88 := Sl.mono R88 hle94
    have Rp_e2 := Sl.mono Rp_e2 hle94
    have R40 := Sl.mono R40 hle94
    have R46 := Sl.mono R46 hle94
    have R50 := Sl.mono R50 hle94
    have Rp_e0 := Sl.mono Rp_e0 hle94
    have Rp_e4 := Sl.mono Rp_e4 hle94
    refine WL.valw (R.fieldB h37 fld26_2) ?_
    refine W.storeSl (α := Str) (i := 3) [v39, v84, v91, (str m47), v49, (str m51), (int m52), (int m53)] S R95 rfl rfl rfl lay23 (Nat.le_of_ble_eq_true rfl) rfl ?_
    intro w96 S
    refine WL.nil ?_
    refine WP.seq ?_
    refine WP.region ?_
    refine WL.valw (R.fieldB h35 fld26_4) ?_
    refine WL.valw (R.loadB (i := 5) (v := vp_e4) S rfl rfl lay24 rfl) ?_
    have S := S.addNil 39 2
    obtain ⟨l97, hl97, h⟩ := bindE h
    refine W.app (α := GField) (i := 0) S el24 rfl rfl rfl Sl.nil Rp_e4 hl97 ?_
    intro v98 w99 H100 hle101 R102 S
    have Rp_e1 := Sl.mono Rp_e1 hle101
    have R88 := Sl.mono R88 hle101
    have Rp_e2 := Sl.mono Rp_e2 hle101
    have R95 := Sl.mono R95 hle101
    have Rp_e4 := Sl.mono Rp_e4 hle101
    have R40 := Sl.mono R40 hle101
    have R50 := Sl.mono R50 hle101
    have Rp_e0 := Sl.mono Rp_e0 hle101
    refine WL.valw (R.fieldB h37 fld26_4) ?_
    refine W.storeSl (α := GField) (i := 4) [v39, v84, v91, (str m47), v98, (str m51), (int m52), (int m53)] S R102 rfl rfl rfl lay24 (Nat.le_of_ble_eq_true rfl) rfl ?_
    intro w103 S
    refine WL.nil ?_
    refine WP.seq ?_
    refine WP.region ?_
    refine WL.valw (R.loadBN (i := 4) (vs := [v39, v84, v91, (str m47), v98, (str m51), (int m52), (int m53)]) S h37 rfl lay26 rfl rfl) ?_
    refine W.store (i := 5) [v39, v84, v91, (str m47), v98, (str m51), (int m52), (int m53)] S h36 rfl rfl lay26 rfl (AllOne.all (l := [v39, v84, v91, (str m47), v98, (str m51), (int m52), (int m53)]) (.cons (Sl.oneC R40) (.cons (Sl.oneC R88) (.cons (Sl.oneC R95) (.cons rfl (.cons (Sl.oneC R102) (.cons rfl (.cons rfl (.cons rfl .nil))))))))) (Nat.le_of_ble_eq_true rfl) rfl ?_
    intro w104 S
    refine WL.nil ?_
    obtain rfl := Option.some.inj h
    refine WP.ret (Out.one rfl S (Res.cellB (i := 5) (cs := [v39, v84, v91, (str m47), v98, (str m51), (int m52), (int m53)]) S h36 rfl lay26 rfl rfl) ?_)
    exact ⟨_, _, _, _, rfl, R40, R88, R95, R102⟩
set_option maxRecDepth 10000 in
set_option maxHeartbeats 4000000 in
theorem fieldline_Remove_1_ok {w0 : World} {H0 : Hp} (hw : Holds w0 H0) (hG : Tryd.Gl w0) (p_f : GField) (c_x0 : (GField → Option Bool)) {ac_x0 : Addr} {kc_x0 : FuncId} {cc_x0 : List Value} (Ac_x0 : At H0 ac_x0 [(.func (.func kc_x0) #[] cc_x0.toArray)]) (Fc_x0 : ∀ {w : World} {H : Hp}, H0.le H → Holds w H → Tryd.Gl w → ∀ (x0 : GField) (rr : Bool), c_x0 x0 = some rr → Con Tryd.prog kc_x0 ([(agg [(str x0.fName), (str x0.fValue)])] ++ cc_x0) w H (fun H' v => v = (boo rr))) {r : Bool} (h : fieldline_Remove_1 p_f c_x0 = some r) :
    Con Tryd.prog 48 [(agg [(str p_f.fName), (str p_f.fValue)]), (.pointer (some ac_x0))] w0 H0 (fun H' v => v = (boo r)) := by
  refine Con.mk (N := 8) Tryd.func48 rfl rfl (by kernel_rfl) rfl ?_
  have S := St.start hw
  refine WP.seq ?_
  refine WP.region ?_
  refine W.box [(str p_f.fName), (str p_f.fValue)] S rfl rfl ?_
  intro b1 w2 S
  refine WL.valw (R.as (v := (boo false)) rfl) ?_
  refine WL.nil ?_
  refine WP.seq ?_
  refine WP.region ?_
  refine WL.valw (R.loadH (v := (.func (.func kc_x0) #[] cc_x0.toArray)) S rfl Ac_x0 lay63 rfl) ?_
  refine WL.valw (R.loadBN (i := 0) (vs := [(str p_f.fName), (str p_f.fValue)]) S rfl rfl lay39 rfl rfl) ?_
  obtain ⟨r3, hr3, h⟩ := bindE h
  refine W.callv S rfl rfl (Fc_x0 (S.post.le) S.holds (hG.post S.post) p_f _ hr3) ?_
  rintro v4 w5 H6 hle7 S rfl
  have Ac_x0 := At.mono Ac_x0 hle7 (by simp)
  refine WL.valw (R.not rfl) ?_
  refine WL.valw (R.as (v := (boo (!r3))) rfl) ?_
  refine WL.nil ?_
  obtain rfl := Option.some.inj h
  refine WP.ret (Out.one rfl S rfl ?_)
  exact rfl
set_option maxRecDepth 10000 in
set_option maxHeartbeats 4000000 in
theorem ascii_Decimal_ok {w0 : World} {H0 : Hp} (hw : Holds w0 H0) (hG : Tryd.Gl w0) (p_n : Int) {r : Str} (h : ascii_Decimal p_n = some r) :
    Con Tryd.prog 41 [(int p_n)] w0 H0 (fun H' v => v = (str r)) := by
  refine Con.mk (N := 5) Tryd.func41 rfl rfl (by kernel_rfl) rfl ?_
  have S := St.start hw
  refine WP.seq ?_
  refine WP.region ?_
  refine WL.valw (R.as (v := (str [])) rfl) ?_
  refine WL.nil ?_
  refine WP.seq ?_
  refine WP.region ?_
  refine WL.valw (R.mv (v := (int p_n)) rfl) ?_
  obtain ⟨r1, hr1, h⟩ := bindE h
  refine W.call S rfl (strconv_Itoa_ok S.holds (hG.post S.post) p_n hr1) ?_
  rintro v2 w3 H4 hle5 S rfl
  refine WL.valw (R.as (v := (str r1)) rfl) ?_
  refine WL.nil ?_
  obtain rfl := Option.some.inj h
  refine WP.ret (Out.one rfl S rfl ?_)
  exact rfl
set_option maxRecDepth 10000 in
set_option maxHeartbeats 4000000 in
theorem hop_Via_ok {w0 : World} {H0 : Hp} (hw : Holds w0 H0) (hG : Tryd.Gl w0) (p_l : (List GField)) (p_minor : Int) (p_name : Str) {vp_l : Value} (Rp_l : Sl (α := GField) H0 vp_l p_l) {r : (List GField)} (h : hop_Via p_l p_minor p_name = some r) :
    Con Tryd.prog 42 [vp_l, (int p_minor), (str p_name)] w0 H0 (fun H' v => Sl (α := GField) H' v r) := by
  refine Con.mk (N := 20) Tryd.func42 rfl rfl (by kernel_rfl) rfl ?_
  have S := St.start hw
  refine WP.seq ?_
  refine WP.region ?_
  refine WL.valw (R.as (v := (.slice none 0 0)) rfl) ?_
  refine WL.nil ?_
  refine WP.seq ?_
  refine WP.region ?_
  refine WL.valw (R.mv (v := vp_l) rfl) ?_
  have S := S.addNil 39 2
  obtain ⟨l1, hl1, h⟩ := bindE h
  refine W.app (α := GField) (i := 0) S el24 rfl rfl rfl Sl.nil Rp_l hl1 ?_
  intro v2 w3 H4 hle5 R6 S
  have Rp_l := Sl.mono Rp_l hle5
  refine WL.valw (R.as (v := v2) rfl) ?_
  refine WL.nil ?_
  refine WP.seq ?_
  refine WP.region ?_
  refine WL.valw (R.mv (v := v2) rfl) ?_
  refine WL.valw (R.mv (v := (int p_minor)) rfl) ?_
  obtain ⟨r7, hr7, h⟩ := bindE h
  refine W.call S rfl (ascii_Decimal_ok S.holds (hG.post S.post) p_minor hr7) ?_
  rintro v8 w9 H10 hle11 S rfl
  have Rp_l := Sl.mono Rp_l hle11
  have R6 := Sl.mono R6 hle11
  obtain ⟨s12, hs12, h⟩ := bindE h
  refine WL.valw (R.cat (a := [49, 46]) (b := r7) rfl rfl hs12) ?_
  obtain ⟨s13, hs13, h⟩ := bindE h
  refine WL.valw (R.cat (a := s12) (b := [32]) rfl rfl hs13) ?_
  refine WL.valw (R.mv (v := (str p_name)) rfl) ?_
  obtain ⟨s14, hs14, h⟩ := bindE h
  refine WL.valw (R.cat (a := s13) (b := p_name) rfl rfl hs14) ?_
  refine WL.valw (R.build [(0, (str [86, 105, 97])), (1, (str s14))] [(str [86, 105, 97]), (str s14)] bp39 zer39 rfl rfl) ?_
  refine W.bslice (α := GField) [(agg [(str [86, 105, 97]), (str s14)])] ([(⟨[86, 105, 97], s14⟩ : GField)] : List GField) S el24 rfl rfl rfl (by decide) (Go.Eng.encS ⟨rfl, rfl⟩ enc0) ?_
  intro u15 w16 H17 hle18 R19 S
  have Rp_l := Sl.mono Rp_l hle18
  have R6 := Sl.mono R6 hle18
  obtain ⟨l20, hl20, h⟩ := bindE h
  refine W.app (α := GField) (i := 1) S el24 rfl rfl rfl R6 R19 hl20 ?_
  intro v21 w22 H23 hle24 R25 S
  have Rp_l := Sl.mono Rp_l hle24
  have R6 := Sl.mono R6 hle24
  have R19 := Sl.mono R19 hle24
  refine WL.valw (R.as (v := v21) rfl) ?_
  refine WL.nil ?_
  obtain rfl := Option.some.inj h
  refine WP.ret (Out.one rfl S rfl ?_)
  exact R25
set_option maxRecDepth 10000 in
set_option maxHeartbeats 4000000 in
theorem fieldline_filter_okR {w0 ws : World} {H0 Hs : Hp} {L2 : List Ent} (hG : Tryd.Gl w0) (p_l : (List GField)) (p_keep : (GField → Option Bool)) {vp_l : Value} {kp_keep : FuncId} {cp_keep : List Value} (S : St w0 H0 ws Hs (L2)) (Rp_l : Sl (α := GField) Hs vp_l p_l) (Fp_keep : ∀ {w : World} {H : Hp}, Hs.le H → Holds w H → Tryd.Gl w → ∀ (x0 : GField) (rr : Bool), p_keep x0 = some rr → Con Tryd.prog kp_keep ([(agg [(str x0.fName), (str x0.fValue)])] ++ cp_keep) w H (fun H' v => v = (boo rr))) {r : (List GField)} (h : fieldline_filter p_l p_keep = some r) :
    ConS Tryd.prog 43 [vp_l, (.func (.func kp_keep) #[] cp_keep.toArray)] w0 H0 ws Hs L2 (fun H' v L' => ∃ u1 : Value, L' = [.row u1 39 2 r.length] ∧ v = u1 ∧ Sl (α := GField) H' u1 r) := by
  refine ConS.mk (N := 23) Tryd.func43 rfl rfl (by kernel_rfl) rfl ?_
  refine WP.seq ?_
  refine WP.region ?_
  refine WL.valw (R.as (v := (.slice none 0 0)) rfl) ?_
  refine WL.nil ?_
  refine WP.seq ?_
  refine WP.region ?_
  refine WL.valw (R.as (v := (.slice none 0 0)) rfl) ?_
  refine WL.nil ?_
  refine WP.seq ?_
  refine WP.seq ?_
  refine WP.region ?_
  refine WL.valw (R.mv (v := vp_l) rfl) ?_
  refine WL.valw (R.lenL (α := GField) (xs := p_l) (H := Hs) Rp_l rfl Tryd.underlying24) ?_
  refine WL.valw (R.mv (v := (int 0)) rfl) ?_
  refine WL.nil ?_
  have S := S.addNil 39 2
  obtain ⟨out_13, hr22, h⟩ := bindE h
  refine WP.cut (fun f w => ∃ (H12 : Hp) (v14 : Value), f 5 = v14 ∧ Sl (α := GField) H12 v14 out_13 ∧ Hp.le Hs H12 ∧ St w0 H0 w H12 (.row v14 39 2 out_13.length :: L2)) ?_ ?_
  · refine WP.block ?_
    refine WP.loopM (fieldline_filter_L0 p_l p_keep) (fun s f w => match s with | (out_3, y_9) => ∃ (H1 : Hp) (v4 : Value), f 1 = (.func (.func kp_keep) #[] cp_keep.toArray) ∧ f 5 = v4 ∧ f 8 = vp_l ∧ f 9 = (int (p_l.length : Int)) ∧ f 10 = (int y_9) ∧ Sl (α := GField) H1 v4 out_3 ∧ Sl (α := GField) H1 vp_l p_l ∧ Hp.le Hs H1 ∧ St w0 H0 w H1 (.row v4 39 2 out_3.length :: L2)) (([] : List GField), 0) out_13 hr22 ?_ ?_
    · exact ⟨Hs, .slice none 0 0, rfl, rfl, rfl, rfl, rfl, Sl.nil, Rp_l, (Hp.le.refl _), S⟩
    · intro s f w hI y18 hy19 hy20
      obtain ⟨out_3, y_9⟩ := s
      obtain ⟨H1, v4, h2, h6, h7, h8, h10, R5, Rp_l, hE11, S⟩ := hI
      refine WP.seq ?_
      refine WP.region ?_
      refine WL.valw (R.lss h10 h8) ?_
      refine WL.nil ?_
      refine WP.seq ?_
      rcases condE hy19 with ⟨hc23, hy19⟩ | ⟨hc23, hy19⟩
      · refine WP.condT rfl hc23 ?_
        refine WP.skip ?_
        refine WP.seq ?_
        refine WP.block ?_
        refine WP.seq ?_
        refine WP.region ?_
        obtain ⟨x24, hx24, hy19⟩ := bindE hy19
        refine W.idx (α := GField) Rp_l h7 h10 el24 hx24 ?_
        rintro a25 _ hA26 rfl
        refine WL.valw (R.loadHN (vs := [(str x24.fName), (str x24.fValue)]) S rfl hA26 lay39 rfl rfl) ?_
        refine W.alloc [(str []), (str [])] S zer39 ?_
        intro b27 w28 S
        refine W.store (i := 0) [(str x24.fName), (str x24.fValue)] S rfl rfl rfl lay39 rfl rfl (Nat.le_of_ble_eq_true rfl) rfl ?_
        intro w29 S
        refine WL.nil ?_
        refine WP.seq ?_
        refine WP.region ?_
        refine WL.valw (R.mv (v := (.func (.func kp_keep) #[] cp_keep.toArray)) h2) ?_
        refine WL.valw (R.loadBN (i := 0) (vs := [(str x24.fName), (str x24.fValue)]) S rfl rfl lay39 rfl rfl) ?_
        obtain ⟨r30, hr30, hy19⟩ := bindE hy19
        refine W.callv S rfl rfl (Fp_keep hE11 S.holds (hG.post S.post) x24 _ hr30) ?_
        rintro v31 w32 H33 hle34 S rfl
        have R5 := Sl.mono R5 hle34
        have Rp_l := Sl.mono Rp_l hle34
        have hA26 := At.mono hA26 hle34 (by simp)
        refine WL.nil ?_
        rcases condE hy19 with ⟨hc35, hy19⟩ | ⟨hc35, hy19⟩
        · refine WP.condT rfl hc35 ?_
          refine WP.region ?_
          refine WL.valw (R.mv (v := v4) h6) ?_
          refine WL.valw (R.loadBN (i := 0) (vs := [(str x24.fName), (str x24.fValue)]) S rfl rfl lay39 rfl rfl) ?_
          refine W.bslice (α := GField) [(agg [(str x24.fName), (str x24.fValue)])] ([x24] : List GField) S el24 rfl rfl rfl (by decide) (Go.Eng.encS ⟨rfl, rfl⟩ enc0) ?_
          intro u36 w37 H38 hle39 R40 S
          have R5 := Sl.mono R5 hle39
          have Rp_l := Sl.mono Rp_l hle39
          have hA26 := At.mono hA26 hle39 (by simp)
          obtain ⟨l41, hl41, hy19⟩ := bindE hy19
          refine W.app (α := GField) (i := 2) S el24 rfl rfl rfl R5 R40 hl41 ?_
          intro v42 w43 H44 hle45 R46 S
          have R5 := Sl.mono R5 hle45
          have Rp_l := Sl.mono Rp_l hle45
          have hA26 := At.mono hA26 hle45 (by simp)
          have R40 := Sl.mono R40 hle45
          refine WL.valw (R.as (v := v42) rfl) ?_
          refine WL.nil ?_
          refine WP.region ?_
          refine WL.valw (R.add h10 rfl) ?_
          refine WL.valw (R.mv (v := (int (wr (y_9 + 1)))) rfl) ?_
          refine WL.nil ?_
          obtain rfl := Option.some.inj hy19
          exact ⟨rfl, ⟨H44, v42, h2, rfl, h7, h8, rfl, R46, Rp_l, (((hE11.trans hle34).trans hle39).trans hle45), (S.drop _ (.cons _ (.cons _ (.cons_cons _ (.refl _)))))⟩⟩
        · refine WP.condF rfl hc35 ?_
          refine WP.skip ?_
          refine WP.region ?_
          refine WL.valw (R.add h10 rfl) ?_
          refine WL.valw (R.mv (v := (int (wr (y_9 + 1)))) rfl) ?_
          refine WL.nil ?_
          obtain rfl := Option.some.inj hy19
          exact ⟨rfl, ⟨H33, v4, h2, h6, h7, h8, rfl, R5, Rp_l, (hE11.trans hle34), (S.drop _ (.cons _ (.cons_cons _ (.refl _))))⟩⟩
      · refine WP.condF rfl hc23 ?_
        refine WP.exit ?_
        obtain rfl := Option.some.inj hy19
        obtain rfl := hy20
        exact ⟨H1, v4, h6, R5, hE11, S⟩
  · rintro f w ⟨H12, v14, h16, R15, hE17, S⟩
    refine WP.seq ?_
    refine WP.region ?_
    refine WL.valw (R.mv (v := v14) h16) ?_
    refine WL.valw (R.as (v := v14) rfl) ?_
    refine WL.nil ?_
    obtain rfl := Option.some.inj h
    have S3 := S
    have S3 := S3.front 0 rfl
    replace S3 : St w0 H0 _ H12 (.row v14 39 2 out_13.length :: L2) := S3
    replace S3 : St w0 H0 _ H12 (.row v14 39 2 out_13.length :: L2) := S3.drop _ (.cons_cons _ (.refl _))
    refine WP.ret (OutS.one (L' := [.row v14 39 2 out_13.length]) rfl hE17 S3 rfl ?_)
    exact ⟨_, rfl, rfl, R15⟩
set_option maxRecDepth 10000 in
set_option maxHeartbeats 4000000 in
theorem fieldline_Remove_okR {w0 ws : World} {H0 Hs : Hp} {L2 : List Ent} (hG : Tryd.Gl w0) (p_l : (List GField)) (p_name : Str) {vp_l : Value} (S : St w0 H0 ws Hs (L2)) (Rp_l : Sl (α := GField) Hs vp_l p_l) {r : (List GField)} (h : fieldline_Remove p_l p_name = some r) :
    ConS Tryd.prog 40 [vp_l, (str p_name)] w0 H0 ws Hs L2 (fun H' v L' => ∃ u1 : Value, L' = [.row u1 39 2 r.length] ∧ v = u1 ∧ Sl (α := GField) H' u1 r) := by
  refine ConS.mk (N := 11) Tryd.func40 rfl rfl (by kernel_rfl) rfl ?_
  refine WP.seq ?_
  refine WP.region ?_
  refine WL.valw (R.as (v := (.slice none 0 0)) rfl) ?_
  refine WL.nil ?_
  refine WP.seq ?_
  refine WP.region ?_
  refine WL.valw (R.mv (v := (str p_name)) rfl) ?_
  obtain ⟨r1, hr1, h⟩ := bindE h
  refine W.call S rfl (fieldline_named_ok S.holds (hG.post S.post) p_name hr1) ?_
  rintro v2 w3 H4 hle5 S ⟨kr1, cr1, rfl, Fr1⟩
  have Rp_l := Sl.mono Rp_l hle5
  refine W.alloc [.nilFunc] S zer63 ?_
  intro b6 w7 S
  refine W.store (i := 0) [(.func (.func kr1) #[] cr1.toArray)] S rfl rfl rfl lay63 rfl rfl (Nat.le_of_ble_eq_true rfl) rfl ?_
  intro w8 S
  refine WL.nil ?_
  refine WP.seq ?_
  refine WP.region ?_
  refine WL.valw (R.mv (v := vp_l) rfl) ?_
  obtain ⟨H9, hle10, hs11, _, S⟩ := S.settle (i := 0) rfl
  replace S : St w0 H0 _ H9 (L2) := S
  have hA12 : At H9 ⟨b6, 0, none⟩ [(.func (.func kr1) #[] cr1.toArray)] := ⟨_, _, rfl, hs11, [], by simp⟩
  have Rp_l := Sl.mono Rp_l hle10
  refine WL.valw (R.mkFunc (vs := [(.pointer (some ⟨b6, 0, none⟩))]) rfl) ?_
  obtain ⟨r13, hr13, h⟩ := bindE h
  refine W.callS rfl (fieldline_filter_okR hG p_l (fun x0 => fieldline_Remove_1 x0 r1) S Rp_l (fun hle hw hG x0 r h => fieldline_Remove_1_ok hw hG x0 r1 (At.mono hA12 hle (by simp)) (fun hle2 => Fr1 (Hp.le.trans (Hp.le.trans hle10 hle) hle2)) h) hr13) ?_
  rintro v14 w15 H16 L20 hle17 S ⟨_, rfl, rfl, R19⟩
  replace S : St w0 H0 _ H16 (.row v14 39 2 r13.length :: L2) := S
  have Rp_l := Sl.mono Rp_l hle17
  have hA12 := At.mono hA12 hle17 (by simp)
  refine WL.valw (R.as (v := v14) rfl) ?_
  refine WL.nil ?_
  obtain rfl := Option.some.inj h
  have S3 := S
  have S3 := S3.front 0 rfl
  replace S3 : St w0 H0 _ H16 (.row v14 39 2 r13.length :: L2) := S3
  replace S3 : St w0 H0 _ H16 (.row v14 39 2 r13.length :: L2) := S3.drop _ (.cons_cons _ (.refl _))
  refine WP.ret (OutS.one (L' := [.row v14 39 2 r13.length]) rfl ((hle5.trans hle10).trans hle17) S3 rfl ?_)
  exact ⟨_, rfl, rfl, R19⟩
end Go.Proofs
