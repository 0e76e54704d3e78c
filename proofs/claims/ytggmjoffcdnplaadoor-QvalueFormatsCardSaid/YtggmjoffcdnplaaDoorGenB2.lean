/- A part of the proof of laws of the seat: written by program over the translation. -/
import Derived.Test.YtggmjoffcdnplaaDoorGenB1
namespace Go.Proofs
open Go.Eng Go.Eng.Pure
set_option linter.unusedVariables false
set_option maxHeartbeats 4000000 in
theorem keep_Fields_ok {w0 : World} {H0 : Hp} (hw : Holds w0 H0) (p_l : (List GField)) {vp_l : Value} (Rp_l : Sl (α := GField) H0 vp_l p_l) {r : Bool} (h : keep_Fields p_l = some r) :
    Con Tryd.prog 17 [vp_l] w0 H0 (fun H' v => v = (boo r)) := by
  refine Con.mk (N := 33) Tryd.func17 rfl rfl (by kernel_rfl) rfl ?_
  have S := St.start hw
  refine WP.seq ?_
  refine WP.region ?_
  refine WL.valw (R.as (v := (boo false)) rfl) ?_
  refine WL.nil ?_
  refine WP.seq ?_
  refine WP.seq ?_
  refine WP.region ?_
  refine WL.valw (R.as (v := (int 0)) rfl) ?_
  refine WL.nil ?_
  obtain ⟨r10, hr11, h⟩ := bindE h
  refine WP.cut (fun f w => match r10 with | .inl _ => ∃ (H5 : Hp), f 0 = vp_l ∧ Sl (α := GField) H5 vp_l p_l ∧ St w0 H0 w H5 [] | .inr _ => False) ?_ ?_
  · refine WP.block ?_
    refine WP.loopM (keep_Fields_L0 p_l) (fun s f w => match s with | i_3 => ∃ (H1 : Hp), f 0 = vp_l ∧ f 3 = (int i_3) ∧ Sl (α := GField) H1 vp_l p_l ∧ St w0 H0 w H1 []) 0 r10 hr11 ?_ ?_
    · exact ⟨H0, rfl, rfl, Rp_l, S⟩
    · intro i_3 f w hI y7 hy8 hy9
      obtain ⟨H1, h2, h4, Rp_l, S⟩ := hI
      refine WP.seq ?_
      refine WP.seq ?_
      refine WP.region ?_
      refine WL.valw (R.mv (v := (int i_3)) h4) ?_
      refine WL.valw (R.mv (v := vp_l) h2) ?_
      refine WL.valw (R.lenL (α := GField) (xs := p_l) (H := H1) Rp_l rfl Tryd.underlying28) ?_
      refine WL.valw (R.lss rfl rfl) ?_
      refine WL.valw (R.mv (v := (boo (decide (i_3 < (p_l.length : Int))))) rfl) ?_
      refine WL.grp 3 [9, 10] 11 (boo ((decide (i_3 < (p_l.length : Int))) && (decide (i_3 < 71)))) ?_ ?_
      · rcases boolE (decide (i_3 < (p_l.length : Int))) with hb12 | hb12
        · refine WL.gyes rfl rfl hb12 ?_
          refine WL.valw (R.mv (v := (int i_3)) h4) ?_
          refine WL.gyes rfl rfl hb12 ?_
          refine WL.valw (R.lss rfl rfl) ?_
          refine WL.valw (R.pickT rfl hb12 rfl) ?_
          exact WL.nil ⟨(andT hb12), (by repeat (first | refine agree_upd rfl ?_ | refine agree_upds' rfl ?_ | exact agree_refl)), rfl⟩
        · refine WL.gno rfl rfl hb12 ?_
          refine WL.gno rfl rfl hb12 ?_
          refine WL.valw (R.pickF rfl hb12 rfl) ?_
          exact WL.nil ⟨(andF hb12), (by repeat (first | refine agree_upd rfl ?_ | refine agree_upds' rfl ?_ | exact agree_refl)), rfl⟩
      · intro us
        refine WL.nil ?_
        rcases condE hy8 with ⟨hc14, hy8⟩ | ⟨hc14, hy8⟩
        · refine WP.condT rfl hc14 ?_
          refine WP.skip ?_
          refine WP.seq ?_
          refine WP.block ?_
          refine WP.seq ?_
          refine WP.region ?_
          refine WL.valw (R.mv (v := vp_l) h2) ?_
          refine WL.valw (R.mv (v := (int i_3)) h4) ?_
          obtain ⟨x15, hx15, hy8⟩ := bindE hy8
          refine W.idx (α := GField) Rp_l rfl rfl el28 hx15 ?_
          rintro a16 _ hA17 rfl
          refine WL.valw (R.field rfl fld36_0) ?_
          have hA18 := At.add hA17 0 (by simp)
          refine WL.valw (R.loadH (v := (str x15.fName)) S rfl hA18 lay9 rfl) ?_
          refine WL.valw (R.lenS (a := x15.fName) rfl Tryd.underlying9) ?_
          refine WL.valw (R.gtr rfl rfl) ?_
          refine WL.valw (R.mv (v := (boo (decide (300 < (x15.fName.length : Int))))) rfl) ?_
          obtain ⟨b25, hg20, hy8⟩ := bindE hy8
          refine WL.grp 8 [22, 23, 24, 25, 26, 27, 28] 29 (boo b25) ?_ ?_
          · rcases boolE (decide (300 < (x15.fName.length : Int))) with hb19 | hb19
            · replace hg20 := condT hg20 hb19
              refine WL.gno rfl rfl hb19 ?_
              refine WL.gno rfl rfl hb19 ?_
              refine WL.gno rfl rfl hb19 ?_
              refine WL.gno rfl rfl hb19 ?_
              refine WL.gno rfl rfl hb19 ?_
              refine WL.gno rfl rfl hb19 ?_
              refine WL.gno rfl rfl hb19 ?_
              refine WL.valw (R.pickT rfl hb19 rfl) ?_
              exact WL.nil ⟨(congrArg boo (Option.some.inj hg20)), (by repeat (first | refine agree_upd rfl ?_ | refine agree_upds' rfl ?_ | exact agree_refl)), rfl⟩
            · replace hg20 := condF hg20 hb19
              refine WL.gyes rfl rfl hb19 ?_
              refine WL.valw (R.mv (v := vp_l) h2) ?_
              refine WL.gyes rfl rfl hb19 ?_
              refine WL.valw (R.mv (v := (int i_3)) h4) ?_
              refine WL.gyes rfl rfl hb19 ?_
              obtain ⟨x21, hx21, hg20⟩ := bindE hg20
              refine W.idx (α := GField) Rp_l rfl rfl el28 hx21 ?_
              rintro a22 _ hA23 rfl
              refine WL.gyes rfl rfl hb19 ?_
              refine WL.valw (R.field rfl fld36_1) ?_
              have hA24 := At.add hA23 1 (by simp)
              refine WL.gyes rfl rfl hb19 ?_
              refine WL.valw (R.loadH (v := (str x21.fValue)) S rfl hA24 lay9 rfl) ?_
              refine WL.gyes rfl rfl hb19 ?_
              refine WL.valw (R.lenS (a := x21.fValue) rfl Tryd.underlying9) ?_
              refine WL.gyes rfl rfl hb19 ?_
              refine WL.valw (R.gtr rfl rfl) ?_
              refine WL.valw (R.pickF rfl hb19 rfl) ?_
              exact WL.nil ⟨(congrArg boo (Option.some.inj hg20)), (by repeat (first | refine agree_upd rfl ?_ | refine agree_upds' rfl ?_ | exact agree_refl)), rfl⟩
          · intro us
            refine WL.nil ?_
            rcases condE hy8 with ⟨hc26, hy8⟩ | ⟨hc26, hy8⟩
            · refine WP.condT rfl hc26 ?_
              refine WP.seq ?_
              refine WP.region ?_
              refine WL.valw (R.as (v := (boo false)) rfl) ?_
              refine WL.nil ?_
              obtain rfl := Option.some.inj hy8
              obtain rfl := hy9
              obtain rfl := Option.some.inj h
              refine WP.ret (Out.one rfl S rfl ?_)
              exact rfl
            · refine WP.condF rfl hc26 ?_
              refine WP.skip ?_
              refine WP.region ?_
              refine WL.valw (R.mv (v := (int i_3)) h4) ?_
              refine WL.valw (R.add rfl rfl) ?_
              refine WL.valw (R.as (v := (int (wr (i_3 + 1)))) rfl) ?_
              refine WL.nil ?_
              obtain rfl := Option.some.inj hy8
              exact ⟨rfl, ⟨H1, h2, rfl, Rp_l, S⟩⟩
        · refine WP.condF rfl hc14 ?_
          refine WP.exit ?_
          obtain rfl := Option.some.inj hy8
          obtain rfl := hy9
          exact ⟨H1, h2, Rp_l, S⟩
  · intro f w hM
    rcases r10 with _ | e
    · obtain ⟨H5, h6, Rp_l, S⟩ := hM
      refine WP.seq ?_
      refine WP.region ?_
      refine WL.valw (R.mv (v := vp_l) h6) ?_
      refine WL.valw (R.lenL (α := GField) (xs := p_l) (H := H5) Rp_l rfl Tryd.underlying28) ?_
      refine WL.valw (R.leq rfl rfl) ?_
      refine WL.valw (R.as (v := (boo (decide ((p_l.length : Int) ≤ 70)))) rfl) ?_
      refine WL.nil ?_
      obtain rfl := Option.some.inj h
      refine WP.ret (Out.one rfl S rfl ?_)
      exact rfl
    · exact hM.elim
set_option maxHeartbeats 4000000 in
theorem ascii_Lower_ok {w0 : World} {H0 : Hp} (hw : Holds w0 H0) (p_s : Str) {r : Str} (h : ascii_Lower p_s = some r) :
    Con Tryd.prog 74 [(str p_s)] w0 H0 (fun H' v => v = (str r)) := by
  refine Con.mk (N := 30) Tryd.func74 rfl rfl (by kernel_rfl) rfl ?_
  have S := St.start hw
  refine WP.seq ?_
  refine WP.region ?_
  refine WL.valw (R.as (v := (str [])) rfl) ?_
  refine WL.nil ?_
  refine WP.seq ?_
  refine WP.region ?_
  refine WL.valw (R.mv (v := (str p_s)) rfl) ?_
  refine W.bytes (s := p_s) S rfl Tryd.underlying9 Tryd.underlying57 Tryd.underlying5 ?_
  intro b1 c2 w3 hc2 S
  refine WL.valw (R.as (v := (.slice (some ⟨b1, 0, none⟩) p_s.length c2)) rfl) ?_
  refine WL.nil ?_
  refine WP.seq ?_
  refine WP.seq ?_
  refine WP.region ?_
  refine WL.valw (R.mv (v := (.slice (some ⟨b1, 0, none⟩) p_s.length c2)) rfl) ?_
  refine WL.valw (R.lenV rfl Tryd.underlying57) ?_
  refine WL.valw (R.mv (v := (int 0)) rfl) ?_
  refine WL.nil ?_
  obtain ⟨m14, hr20, h⟩ := bindE h
  refine WP.cut (fun f w => ∃ (H12 : Hp), f 3 = (.slice (some ⟨b1, 0, none⟩) p_s.length c2) ∧ m14.length = p_s.length ∧ St w0 H0 w H12 [.box b1 5 (m14.map byt)]) ?_ ?_
  · refine WP.block ?_
    refine WP.loopM (ascii_Lower_L0 p_s) (fun s f w => match s with | (y_8, m10) => ∃ (H4 : Hp), f 3 = (.slice (some ⟨b1, 0, none⟩) p_s.length c2) ∧ f 8 = (.slice (some ⟨b1, 0, none⟩) p_s.length c2) ∧ f 9 = (int (p_s.length : Int)) ∧ f 10 = (int y_8) ∧ m10.length = p_s.length ∧ St w0 H0 w H4 [.box b1 5 (m10.map byt)]) (0, p_s) m14 hr20 ?_ ?_
    · exact ⟨H0, rfl, rfl, rfl, rfl, rfl, S⟩
    · intro s f w hI y16 hy17 hy18
      obtain ⟨y_8, m10⟩ := s
      obtain ⟨H4, h5, h6, h7, h9, hL11, S⟩ := hI
      refine WP.seq ?_
      refine WP.region ?_
      refine WL.valw (R.lss h9 h7) ?_
      refine WL.nil ?_
      refine WP.seq ?_
      rcases condE hy17 with ⟨hc21, hy17⟩ | ⟨hc21, hy17⟩
      · refine WP.condT rfl hc21 ?_
        refine WP.skip ?_
        refine WP.seq ?_
        refine WP.block ?_
        refine WP.seq ?_
        refine WP.region ?_
        refine WL.valw (R.mv (v := (int y_8)) h9) ?_
        obtain ⟨c22, hc22, hy17⟩ := bindE hy17
        have hq23 := (map_byt_get hc22).2
        refine WL.valw (R.idxB h6 h9 el57 (by have := (map_byt_get hc22).2; have hl : m10.length = p_s.length := hL11; omega)) ?_
        obtain ⟨c24, hc24, hy17⟩ := bindE hy17
        refine WL.valw (R.loadB (i := 0) S rfl rfl lay5 (map_byt_get hc24).1) ?_
        refine WL.valw (R.as (v := (int y_8)) rfl) ?_
        refine WL.valw (R.as (v := (byt c24)) rfl) ?_
        refine WL.nil ?_
        refine WP.seq ?_
        refine WP.region ?_
        refine WL.valw (R.mv (v := (byt c24)) rfl) ?_
        refine WL.valw (R.geq8 (a := c24) (b := 65) rfl rfl) ?_
        refine WL.valw (R.mv (v := (boo (decide (65 ≤ c24)))) rfl) ?_
        refine WL.grp 3 [18, 19] 20 (boo ((decide (65 ≤ c24)) && (decide (c24 ≤ 90)))) ?_ ?_
        · rcases boolE (decide (65 ≤ c24)) with hb25 | hb25
          · refine WL.gyes rfl rfl hb25 ?_
            refine WL.valw (R.mv (v := (byt c24)) rfl) ?_
            refine WL.gyes rfl rfl hb25 ?_
            refine WL.valw (R.leq8 (a := c24) (b := 90) rfl rfl) ?_
            refine WL.valw (R.pickT rfl hb25 rfl) ?_
            exact WL.nil ⟨(andT hb25), (by repeat (first | refine agree_upd rfl ?_ | refine agree_upds' rfl ?_ | exact agree_refl)), rfl⟩
          · refine WL.gno rfl rfl hb25 ?_
            refine WL.gno rfl rfl hb25 ?_
            refine WL.valw (R.pickF rfl hb25 rfl) ?_
            exact WL.nil ⟨(andF hb25), (by repeat (first | refine agree_upd rfl ?_ | refine agree_upds' rfl ?_ | exact agree_refl)), rfl⟩
        · intro us
          refine WL.nil ?_
          rcases condE hy17 with ⟨hc27, hy17⟩ | ⟨hc27, hy17⟩
          · refine WP.condT rfl hc27 ?_
            refine WP.region ?_
            refine WL.valw (R.mv (v := (.slice (some ⟨b1, 0, none⟩) p_s.length c2)) h5) ?_
            refine WL.valw (R.mv (v := (int y_8)) rfl) ?_
            refine WL.valw (R.mv (v := (byt c24)) rfl) ?_
            refine WL.valw (R.add8 (a := c24) (b := 97) rfl rfl) ?_
            refine WL.valw (R.sub8 (a := c24 + 97) (b := 65) rfl rfl) ?_
            obtain ⟨c28, hc28, hy17⟩ := bindE hy17
            have hq29 := (map_byt_get hc28).2
            refine WL.valw (R.idxB rfl rfl el57 (by have := (map_byt_get hc28).2; have hl : m10.length = p_s.length := hL11; omega)) ?_
            refine W.store (i := 0) ((m10.set y_8.toNat ((c24 + 97) - 65)).map byt) S rfl rfl rfl lay5 rfl rfl (by rw [List.length_map]; omega) (splice_byt _ _ _ (by omega)) ?_
            intro w30 S
            refine WL.nil ?_
            refine WP.region ?_
            refine WL.valw (R.add h9 rfl) ?_
            refine WL.valw (R.mv (v := (int (wr (y_8 + 1)))) rfl) ?_
            refine WL.nil ?_
            obtain rfl := Option.some.inj hy17
            exact ⟨rfl, ⟨H4, h5, h6, h7, rfl, (List.length_set.trans hL11), S⟩⟩
          · refine WP.condF rfl hc27 ?_
            refine WP.skip ?_
            refine WP.region ?_
            refine WL.valw (R.add h9 rfl) ?_
            refine WL.valw (R.mv (v := (int (wr (y_8 + 1)))) rfl) ?_
            refine WL.nil ?_
            obtain rfl := Option.some.inj hy17
            exact ⟨rfl, ⟨H4, h5, h6, h7, rfl, hL11, S⟩⟩
      · refine WP.condF rfl hc21 ?_
        refine WP.exit ?_
        obtain rfl := Option.some.inj hy17
        obtain rfl := hy18
        exact ⟨H4, h5, hL11, S⟩
  · rintro f w ⟨H12, h13, hL15, S⟩
    refine WP.seq ?_
    refine WP.region ?_
    refine WL.valw (R.mv (v := (.slice (some ⟨b1, 0, none⟩) p_s.length c2)) h13) ?_
    refine WL.valw (R.strB (i := 0) (s := m14) S (by rw [show m14.length = p_s.length from hL15]; exact rfl) rfl Tryd.underlying57 Tryd.underlying9 Tryd.underlying5) ?_
    refine WL.valw (R.as (v := (str m14)) rfl) ?_
    refine WL.nil ?_
    obtain rfl := Option.some.inj h
    refine WP.ret (Out.one rfl S rfl ?_)
    exact rfl
set_option maxHeartbeats 4000000 in
theorem fieldline_named_1_ok {w0 : World} {H0 : Hp} (hw : Holds w0 H0) (p_f : GField) (c_x0 : Str) {ac_x0 : Addr} (Ac_x0 : At H0 ac_x0 [(str c_x0)]) {r : Bool} (h : fieldline_named_1 p_f c_x0 = some r) :
    Con Tryd.prog 75 [(agg [(str p_f.fName), (str p_f.fValue)]), (.pointer (some ac_x0))] w0 H0 (fun H' v => v = (boo r)) := by
  refine Con.mk (N := 17) Tryd.func75 rfl rfl (by kernel_rfl) rfl ?_
  have S := St.start hw
  refine WP.seq ?_
  refine WP.region ?_
  refine W.box [(str p_f.fName), (str p_f.fValue)] S rfl rfl ?_
  intro b1 w2 S
  refine WL.valw (R.as (v := (boo false)) rfl) ?_
  refine WL.nil ?_
  refine WP.seq ?_
  refine WP.quiet S (by kernel_rfl) (by kernel_rfl) ?_
  refine WQ.val (fun _ _ => (R.fieldB rfl fld36_0)) ?_
  refine WQ.val (fun w hw => by obtain ⟨_, hq, S⟩ := hw; exact (R.loadB (i := 0) (v := (str p_f.fName)) S rfl rfl lay9 rfl)) ?_
  refine WQ.val (fun _ _ => (R.lenS (a := p_f.fName) rfl Tryd.underlying9)) ?_
  refine WQ.val (fun w hw => by obtain ⟨_, hq, S⟩ := hw; exact (R.loadH (v := (str c_x0)) S rfl (At.mono Ac_x0 hq (by simp)) lay9 rfl)) ?_
  refine WQ.val (fun _ _ => (R.lenS (a := c_x0) rfl Tryd.underlying9)) ?_
  refine WQ.val (fun _ _ => (R.eql rfl rfl)) ?_
  refine WQ.val (fun _ _ => (R.mv (v := (boo ((p_f.fName.length : Int) == (c_x0.length : Int)))) rfl)) ?_
  obtain ⟨b13, hg7, h⟩ := bindE h
  refine WQ.grp 6 [11, 12, 13, 14, 15] 16 (boo b13) ?_ ?_
  · rcases boolE ((p_f.fName.length : Int) == (c_x0.length : Int)) with hb6 | hb6
    · replace hg7 := condT hg7 hb6
      refine WQ.gyes rfl rfl hb6 ?_
      refine WQ.val (fun _ _ => (R.fieldB rfl fld36_0)) ?_
      refine WQ.gyes rfl rfl hb6 ?_
      refine WQ.val (fun w hw => by obtain ⟨_, hq, S⟩ := hw; exact (R.loadB (i := 0) (v := (str p_f.fName)) S rfl rfl lay9 rfl)) ?_
      refine WQ.gyes rfl rfl hb6 ?_
      obtain ⟨r8, hr8, hg7⟩ := bindE hg7
      refine WQ.call (v := (str r8)) rfl (fun w H' hq S => ascii_Lower_ok S.holds p_f.fName hr8) ?_
      refine WQ.gyes rfl rfl hb6 ?_
      refine WQ.val (fun w hw => by obtain ⟨_, hq, S⟩ := hw; exact (R.loadH (v := (str c_x0)) S rfl (At.mono Ac_x0 hq (by simp)) lay9 rfl)) ?_
      refine WQ.gyes rfl rfl hb6 ?_
      refine WQ.val (fun _ _ => (R.eqlS (a := r8) (b := c_x0) rfl rfl)) ?_
      refine WQ.val (fun _ _ => (R.pickT rfl hb6 rfl)) ?_
      exact WQ.nil ⟨(congrArg boo (Option.some.inj hg7)), (by repeat (first | refine agree_upd rfl ?_ | refine agree_upds' rfl ?_ | exact agree_refl))⟩
    · replace hg7 := condF hg7 hb6
      refine WQ.gno rfl rfl hb6 ?_
      refine WQ.gno rfl rfl hb6 ?_
      refine WQ.gno rfl rfl hb6 ?_
      refine WQ.gno rfl rfl hb6 ?_
      refine WQ.gno rfl rfl hb6 ?_
      refine WQ.val (fun _ _ => (R.pickF rfl hb6 rfl)) ?_
      exact WQ.nil ⟨(congrArg boo (Option.some.inj hg7)), (by repeat (first | refine agree_upd rfl ?_ | refine agree_upds' rfl ?_ | exact agree_refl))⟩
  · intro us
    refine WQ.val (fun _ _ => (R.as (v := (boo b13)) rfl)) ?_
    refine WQ.nil ?_
    intro w3 H4 hle5 S
    have Ac_x0 := At.mono Ac_x0 hle5 (by simp)
    obtain rfl := Option.some.inj h
    refine WP.ret (Out.one rfl S rfl ?_)
    exact rfl
set_option maxHeartbeats 4000000 in
theorem fieldline_named_ok {w0 : World} {H0 : Hp} (hw : Holds w0 H0) (p_name : Str) {r : (GField → Option Bool)} (h : fieldline_named p_name = some r) :
    Con Tryd.prog 60 [(str p_name)] w0 H0 (fun H' v => ∃ (k : FuncId) (c : List Value), v = .func (.func k) #[] c.toArray ∧ ∀ {w : World} {H : Hp}, H'.le H → Holds w H → ∀ (x0 : GField) (rr : Bool), r x0 = some rr → Con Tryd.prog k ([(agg [(str x0.fName), (str x0.fValue)])] ++ c) w H (fun H' v => v = (boo rr))) := by
  refine Con.mk (N := 6) Tryd.func60 rfl rfl (by kernel_rfl) rfl ?_
  have S := St.start hw
  refine WP.seq ?_
  refine WP.region ?_
  refine W.box [(str p_name)] S rfl rfl ?_
  intro b1 w2 S
  refine WL.valw (R.as (v := .nilFunc) rfl) ?_
  refine WL.nil ?_
  refine WP.seq ?_
  refine WP.region ?_
  refine WL.valw (R.loadB (i := 0) (v := (str p_name)) S rfl rfl lay9 rfl) ?_
  obtain ⟨r3, hr3, h⟩ := bindE h
  refine W.call S rfl (ascii_Lower_ok S.holds p_name hr3) ?_
  rintro v4 w5 H6 hle7 S rfl
  refine W.store (i := 0) [(str r3)] S rfl rfl rfl lay9 rfl rfl (Nat.le_of_ble_eq_true rfl) rfl ?_
  intro w8 S
  refine WL.nil ?_
  refine WP.seq ?_
  refine WP.region ?_
  obtain ⟨H9, hle10, hs11, _, S⟩ := S.settle (i := 0) rfl
  replace S : St w0 H0 _ H9 [] := S
  have hA12 : At H9 ⟨b1, 0, none⟩ [(str r3)] := ⟨_, _, rfl, hs11, [], by simp⟩
  refine WL.valw (R.mkFunc (vs := [(.pointer (some ⟨b1, 0, none⟩))]) rfl) ?_
  refine WL.valw (R.as (v := (.func (.func 75) #[] [(.pointer (some ⟨b1, 0, none⟩))].toArray)) rfl) ?_
  refine WL.nil ?_
  obtain rfl := Option.some.inj h
  refine WP.ret (Out.one rfl S rfl ?_)
  exact ⟨_, [(.pointer (some ⟨b1, 0, none⟩))], rfl, fun hle hw x0 r h => fieldline_named_1_ok hw x0 r3 (At.mono hA12 hle (by simp)) h⟩
set_option maxHeartbeats 4000000 in
theorem fieldline_filter_ok {w0 : World} {H0 : Hp} (hw : Holds w0 H0) (p_l : (List GField)) (p_keep : (GField → Option Bool)) {vp_l : Value} {kp_keep : FuncId} {cp_keep : List Value} (Rp_l : Sl (α := GField) H0 vp_l p_l) (Fp_keep : ∀ {w : World} {H : Hp}, H0.le H → Holds w H → ∀ (x0 : GField) (rr : Bool), p_keep x0 = some rr → Con Tryd.prog kp_keep ([(agg [(str x0.fName), (str x0.fValue)])] ++ cp_keep) w H (fun H' v => v = (boo rr))) {r : (List GField)} (h : fieldline_filter p_l p_keep = some r) :
    Con Tryd.prog 59 [vp_l, (.func (.func kp_keep) #[] cp_keep.toArray)] w0 H0 (fun H' v => Sl (α := GField) H' v r) := by
  refine Con.mk (N := 23) Tryd.func59 rfl rfl (by kernel_rfl) rfl ?_
  have S := St.start hw
  refine WP.seq ?_
  refine WP.region ?_
  refine WL.valw (R.as (v := (.slice none 0 0)) rfl) ?_
  refine WL.nil ?_
  refine WP.seq ?_
  refine WP.region ?_
  refine WL.valw (R.as (v := (.slice none 0 0)) rfl) ?_
  refine WL.nil ?_
  refine WP.seq ?_
  refine WP.seq ?_
  refine WP.region ?_
  refine WL.valw (R.mv (v := vp_l) rfl) ?_
  refine WL.valw (R.lenL (α := GField) (xs := p_l) (H := H0) Rp_l rfl Tryd.underlying28) ?_
  refine WL.valw (R.mv (v := (int 0)) rfl) ?_
  refine WL.nil ?_
  have S := S.addNil 36 2
  obtain ⟨out_14, hr22, h⟩ := bindE h
  refine WP.cut (fun f w => ∃ (H13 : Hp) (v15 : Value), f 5 = v15 ∧ Sl (α := GField) H13 v15 out_14 ∧ St w0 H0 w H13 [.row v15 36 2 out_14.length]) ?_ ?_
  · refine WP.block ?_
    refine WP.loopM (fieldline_filter_L0 p_l p_keep) (fun s f w => match s with | (out_5, y_11) => ∃ (H3 : Hp) (v6 : Value), f 1 = (.func (.func kp_keep) #[] cp_keep.toArray) ∧ f 5 = v6 ∧ f 8 = vp_l ∧ f 9 = (int (p_l.length : Int)) ∧ f 10 = (int y_11) ∧ Sl (α := GField) H3 v6 out_5 ∧ Sl (α := GField) H3 vp_l p_l ∧ St w0 H0 w H3 [.row v6 36 2 out_5.length]) (([] : List GField), 0) out_14 hr22 ?_ ?_
    · exact ⟨H0, .slice none 0 0, rfl, rfl, rfl, rfl, rfl, Sl.nil, Rp_l, S⟩
    · intro s f w hI y18 hy19 hy20
      obtain ⟨out_5, y_11⟩ := s
      obtain ⟨H3, v6, h4, h8, h9, h10, h12, R7, Rp_l, S⟩ := hI
      refine WP.seq ?_
      refine WP.region ?_
      refine WL.valw (R.lss h12 h10) ?_
      refine WL.nil ?_
      refine WP.seq ?_
      rcases condE hy19 with ⟨hc23, hy19⟩ | ⟨hc23, hy19⟩
      · refine WP.condT rfl hc23 ?_
        refine WP.skip ?_
        refine WP.seq ?_
        refine WP.block ?_
        refine WP.seq ?_
        refine WP.region ?_
        obtain ⟨x24, hx24, hy19⟩ := bindE hy19
        refine W.idx (α := GField) Rp_l h9 h12 el28 hx24 ?_
        rintro a25 _ hA26 rfl
        refine WL.valw (R.loadHN (vs := [(str x24.fName), (str x24.fValue)]) S rfl hA26 lay36 rfl rfl) ?_
        refine W.alloc [(str []), (str [])] S zer36 ?_
        intro b27 w28 S
        refine W.store (i := 0) [(str x24.fName), (str x24.fValue)] S rfl rfl rfl lay36 rfl rfl (Nat.le_of_ble_eq_true rfl) rfl ?_
        intro w29 S
        refine WL.nil ?_
        refine WP.seq ?_
        refine WP.region ?_
        refine WL.valw (R.mv (v := (.func (.func kp_keep) #[] cp_keep.toArray)) h4) ?_
        refine WL.valw (R.loadBN (i := 0) (vs := [(str x24.fName), (str x24.fValue)]) S rfl rfl lay36 rfl rfl) ?_
        obtain ⟨r30, hr30, hy19⟩ := bindE hy19
        refine W.callv S rfl rfl (Fp_keep (S.post.le) S.holds x24 _ hr30) ?_
        rintro v31 w32 H33 hle34 S rfl
        have R7 := Sl.mono R7 hle34
        have Rp_l := Sl.mono Rp_l hle34
        have hA26 := At.mono hA26 hle34 (by simp)
        refine WL.nil ?_
        rcases condE hy19 with ⟨hc35, hy19⟩ | ⟨hc35, hy19⟩
        · refine WP.condT rfl hc35 ?_
          refine WP.region ?_
          refine WL.valw (R.mv (v := v6) h8) ?_
          refine WL.valw (R.loadBN (i := 0) (vs := [(str x24.fName), (str x24.fValue)]) S rfl rfl lay36 rfl rfl) ?_
          refine W.bslice (α := GField) [(agg [(str x24.fName), (str x24.fValue)])] ([x24] : List GField) S el28 rfl rfl rfl (by decide) (encS ⟨rfl, rfl⟩ enc0) ?_
          intro u36 w37 H38 hle39 R40 S
          have R7 := Sl.mono R7 hle39
          have Rp_l := Sl.mono Rp_l hle39
          have hA26 := At.mono hA26 hle39 (by simp)
          obtain ⟨l41, hl41, hy19⟩ := bindE hy19
          refine W.app (α := GField) (i := 2) S el28 rfl rfl rfl R7 R40 hl41 ?_
          intro v42 w43 H44 hle45 R46 S
          have R7 := Sl.mono R7 hle45
          have Rp_l := Sl.mono Rp_l hle45
          have hA26 := At.mono hA26 hle45 (by simp)
          have R40 := Sl.mono R40 hle45
          refine WL.valw (R.as (v := v42) rfl) ?_
          refine WL.nil ?_
          refine WP.region ?_
          refine WL.valw (R.add h12 rfl) ?_
          refine WL.valw (R.mv (v := (int (wr (y_11 + 1)))) rfl) ?_
          refine WL.nil ?_
          obtain rfl := Option.some.inj hy19
          exact ⟨rfl, ⟨H44, v42, h4, rfl, h9, h10, rfl, R46, Rp_l, (S.drop _ (.cons _ (.cons _ (.cons_cons _ .slnil))))⟩⟩
        · refine WP.condF rfl hc35 ?_
          refine WP.skip ?_
          refine WP.region ?_
          refine WL.valw (R.add h12 rfl) ?_
          refine WL.valw (R.mv (v := (int (wr (y_11 + 1)))) rfl) ?_
          refine WL.nil ?_
          obtain rfl := Option.some.inj hy19
          exact ⟨rfl, ⟨H33, v6, h4, h8, h9, h10, rfl, R7, Rp_l, (S.drop _ (.cons _ (.cons_cons _ .slnil)))⟩⟩
      · refine WP.condF rfl hc23 ?_
        refine WP.exit ?_
        obtain rfl := Option.some.inj hy19
        obtain rfl := hy20
        exact ⟨H3, v6, h8, R7, S⟩
  · rintro f w ⟨H13, v15, h17, R16, S⟩
    refine WP.seq ?_
    refine WP.region ?_
    refine WL.valw (R.mv (v := v15) h17) ?_
    refine WL.valw (R.as (v := v15) rfl) ?_
    refine WL.nil ?_
    obtain rfl := Option.some.inj h
    refine WP.ret (Out.one rfl S rfl ?_)
    exact R16
set_option maxHeartbeats 4000000 in
theorem fieldline_Get_ok {w0 : World} {H0 : Hp} (hw : Holds w0 H0) (p_l : (List GField)) (p_name : Str) {vp_l : Value} (Rp_l : Sl (α := GField) H0 vp_l p_l) {r : (List Str)} (h : fieldline_Get p_l p_name = some r) :
    Con Tryd.prog 41 [vp_l, (str p_name)] w0 H0 (fun H' v => Sl (α := Str) H' v r) := by
  refine Con.mk (N := 24) Tryd.func41 rfl rfl (by kernel_rfl) rfl ?_
  have S := St.start hw
  refine WP.seq ?_
  refine WP.region ?_
  refine WL.valw (R.as (v := (.slice none 0 0)) rfl) ?_
  refine WL.nil ?_
  refine WP.seq ?_
  refine WP.region ?_
  refine WL.valw (R.as (v := (.slice none 0 0)) rfl) ?_
  refine WL.nil ?_
  refine WP.seq ?_
  refine WP.seq ?_
  refine WP.region ?_
  refine WL.valw (R.mv (v := vp_l) rfl) ?_
  refine WL.valw (R.mv (v := (str p_name)) rfl) ?_
  obtain ⟨r1, hr1, h⟩ := bindE h
  refine W.call S rfl (fieldline_named_ok S.holds p_name hr1) ?_
  rintro v2 w3 H4 hle5 S ⟨kr1, cr1, rfl, Fr1⟩
  have Rp_l := Sl.mono Rp_l hle5
  obtain ⟨r6, hr6, h⟩ := bindE h
  refine W.call S rfl (fieldline_filter_ok S.holds p_l r1 Rp_l (fun hle => Fr1 (Hp.le.trans (Hp.le.refl _) hle)) hr6) ?_
  rintro v7 w8 H9 hle10 S R11
  have Rp_l := Sl.mono Rp_l hle10
  refine WL.valw (R.lenL (α := GField) (xs := r6) (H := H9) R11 rfl Tryd.underlying28) ?_
  refine WL.valw (R.mv (v := (int 0)) rfl) ?_
  refine WL.nil ?_
  have S := S.addNil 9 1
  obtain ⟨out_24, hr32, h⟩ := bindE h
  refine WP.cut (fun f w => ∃ (H23 : Hp) (v25 : Value), f 5 = v25 ∧ Sl (α := Str) H23 v25 out_24 ∧ St w0 H0 w H23 [.row v25 9 1 out_24.length]) ?_ ?_
  · refine WP.block ?_
    refine WP.loopM (fieldline_Get_L0 r6) (fun s f w => match s with | (out_15, y_21) => ∃ (H14 : Hp) (v16 : Value), f 5 = v16 ∧ f 11 = v7 ∧ f 12 = (int (r6.length : Int)) ∧ f 13 = (int y_21) ∧ Sl (α := Str) H14 v16 out_15 ∧ Sl (α := GField) H14 v7 r6 ∧ St w0 H0 w H14 [.row v16 9 1 out_15.length]) (([] : List Str), 0) out_24 hr32 ?_ ?_
    · exact ⟨H9, .slice none 0 0, rfl, rfl, rfl, rfl, Sl.nil, R11, S⟩
    · intro s f w hI y28 hy29 hy30
      obtain ⟨out_15, y_21⟩ := s
      obtain ⟨H14, v16, h18, h19, h20, h22, R17, R11, S⟩ := hI
      refine WP.seq ?_
      refine WP.region ?_
      refine WL.valw (R.lss h22 h20) ?_
      refine WL.nil ?_
      refine WP.seq ?_
      rcases condE hy29 with ⟨hc33, hy29⟩ | ⟨hc33, hy29⟩
      · refine WP.condT rfl hc33 ?_
        refine WP.skip ?_
        refine WP.seq ?_
        refine WP.block ?_
        refine WP.seq ?_
        refine WP.region ?_
        obtain ⟨x34, hx34, hy29⟩ := bindE hy29
        refine W.idx (α := GField) R11 h19 h22 el28 hx34 ?_
        rintro a35 _ hA36 rfl
        refine WL.valw (R.loadHN (vs := [(str x34.fName), (str x34.fValue)]) S rfl hA36 lay36 rfl rfl) ?_
        refine W.alloc [(str []), (str [])] S zer36 ?_
        intro b37 w38 S
        refine W.store (i := 0) [(str x34.fName), (str x34.fValue)] S rfl rfl rfl lay36 rfl rfl (Nat.le_of_ble_eq_true rfl) rfl ?_
        intro w39 S
        refine WL.nil ?_
        refine WP.region ?_
        refine WL.valw (R.mv (v := v16) h18) ?_
        refine WL.valw (R.fieldB rfl fld36_1) ?_
        refine WL.valw (R.loadB (i := 0) (v := (str x34.fValue)) S rfl rfl lay9 rfl) ?_
        refine W.bslice (α := Str) [(str x34.fValue)] ([x34.fValue] : List Str) S el31 rfl rfl rfl (by decide) (encS ⟨rfl, rfl⟩ enc0) ?_
        intro u40 w41 H42 hle43 R44 S
        have R17 := Sl.mono R17 hle43
        have R11 := Sl.mono R11 hle43
        have hA36 := At.mono hA36 hle43 (by simp)
        obtain ⟨l45, hl45, hy29⟩ := bindE hy29
        refine W.app (α := Str) (i := 2) S el31 rfl rfl rfl R17 R44 hl45 ?_
        intro v46 w47 H48 hle49 R50 S
        have R17 := Sl.mono R17 hle49
        have R11 := Sl.mono R11 hle49
        have hA36 := At.mono hA36 hle49 (by simp)
        have R44 := Sl.mono R44 hle49
        refine WL.valw (R.as (v := v46) rfl) ?_
        refine WL.nil ?_
        refine WP.region ?_
        refine WL.valw (R.add h22 rfl) ?_
        refine WL.valw (R.mv (v := (int (wr (y_21 + 1)))) rfl) ?_
        refine WL.nil ?_
        obtain rfl := Option.some.inj hy29
        exact ⟨rfl, ⟨H48, v46, rfl, h19, h20, rfl, R50, R11, (S.drop _ (.cons _ (.cons _ (.cons_cons _ .slnil))))⟩⟩
      · refine WP.condF rfl hc33 ?_
        refine WP.exit ?_
        obtain rfl := Option.some.inj hy29
        obtain rfl := hy30
        exact ⟨H14, v16, h18, R17, S⟩
  · rintro f w ⟨H23, v25, h27, R26, S⟩
    refine WP.seq ?_
    refine WP.region ?_
    refine WL.valw (R.mv (v := v25) h27) ?_
    refine WL.valw (R.as (v := v25) rfl) ?_
    refine WL.nil ?_
    obtain rfl := Option.some.inj h
    refine WP.ret (Out.one rfl S rfl ?_)
    exact R26
set_option maxHeartbeats 4000000 in
theorem list_step_ok {w0 : World} {H0 : Hp} (hw : Holds w0 H0) (p_state : Int) (p_c : UInt8) {r : Int} (h : list_step p_state p_c = some r) :
    Con Tryd.prog 45 [(int p_state), (byt p_c)] w0 H0 (fun H' v => v = (int r)) := by
  refine Con.mk (N := 21) Tryd.func45 rfl rfl (by kernel_rfl) rfl ?_
  have S := St.start hw
  refine WP.seq ?_
  refine WP.region ?_
  refine WL.valw (R.as (v := (int 0)) rfl) ?_
  refine WL.nil ?_
  refine WP.seq ?_
  refine WP.block ?_
  refine WP.seq ?_
  refine WP.region ?_
  refine WL.valw (R.mv (v := (int p_state)) rfl) ?_
  refine WL.valw (R.eql rfl rfl) ?_
  refine WL.valw (R.as (v := (boo (p_state == 2))) rfl) ?_
  refine WL.nil ?_
  rcases condE h with ⟨hc1, h⟩ | ⟨hc1, h⟩
  · refine WP.condT rfl hc1 ?_
    refine WP.seq ?_
    refine WP.region ?_
    refine WL.valw (R.as (v := (int 1)) rfl) ?_
    refine WL.nil ?_
    obtain rfl := Option.some.inj h
    refine WP.ret (Out.one rfl S rfl ?_)
    exact rfl
  · refine WP.condF rfl hc1 ?_
    refine WP.seq ?_
    refine WP.region ?_
    refine WL.valw (R.mv (v := (int p_state)) rfl) ?_
    refine WL.valw (R.eql rfl rfl) ?_
    refine WL.valw (R.mv (v := (boo (p_state == 1))) rfl) ?_
    refine WL.grp 3 [12, 13] 14 (boo ((p_state == 1) && (p_c == 92))) ?_ ?_
    · rcases boolE (p_state == 1) with hb2 | hb2
      · refine WL.gyes rfl rfl hb2 ?_
        refine WL.valw (R.mv (v := (byt p_c)) rfl) ?_
        refine WL.gyes rfl rfl hb2 ?_
        refine WL.valw (R.eql8 (a := p_c) (b := 92) rfl rfl) ?_
        refine WL.valw (R.pickT rfl hb2 rfl) ?_
        exact WL.nil ⟨(andT hb2), (by repeat (first | refine agree_upd rfl ?_ | refine agree_upds' rfl ?_ | exact agree_refl)), rfl⟩
      · refine WL.gno rfl rfl hb2 ?_
        refine WL.gno rfl rfl hb2 ?_
        refine WL.valw (R.pickF rfl hb2 rfl) ?_
        exact WL.nil ⟨(andF hb2), (by repeat (first | refine agree_upd rfl ?_ | refine agree_upds' rfl ?_ | exact agree_refl)), rfl⟩
    · intro us
      refine WL.valw (R.as (v := (boo ((p_state == 1) && (p_c == 92)))) rfl) ?_
      refine WL.nil ?_
      rcases condE h with ⟨hc4, h⟩ | ⟨hc4, h⟩
      · refine WP.condT rfl hc4 ?_
        refine WP.seq ?_
        refine WP.region ?_
        refine WL.valw (R.as (v := (int 2)) rfl) ?_
        refine WL.nil ?_
        obtain rfl := Option.some.inj h
        refine WP.ret (Out.one rfl S rfl ?_)
        exact rfl
      · refine WP.condF rfl hc4 ?_
        refine WP.seq ?_
        refine WP.region ?_
        refine WL.valw (R.mv (v := (byt p_c)) rfl) ?_
        refine WL.valw (R.eql8 (a := p_c) (b := 34) rfl rfl) ?_
        refine WL.valw (R.as (v := (boo (p_c == 34))) rfl) ?_
        refine WL.nil ?_
        rcases condE h with ⟨hc5, h⟩ | ⟨hc5, h⟩
        · refine WP.condT rfl hc5 ?_
          refine WP.seq ?_
          refine WP.region ?_
          refine WL.valw (R.mv (v := (int p_state)) rfl) ?_
          refine WL.valw (R.sub rfl rfl) ?_
          refine WL.valw (R.as (v := (int (wr (1 - p_state)))) rfl) ?_
          refine WL.nil ?_
          obtain rfl := Option.some.inj h
          refine WP.ret (Out.one rfl S rfl ?_)
          exact rfl
        · refine WP.condF rfl hc5 ?_
          refine WP.skip ?_
          refine WP.seq ?_
          refine WP.region ?_
          refine WL.valw (R.mv (v := (int p_state)) rfl) ?_
          refine WL.valw (R.as (v := (int p_state)) rfl) ?_
          refine WL.nil ?_
          obtain rfl := Option.some.inj h
          refine WP.ret (Out.one rfl S rfl ?_)
          exact rfl
set_option maxHeartbeats 4000000 in
theorem strings_trimLeftByte_ok {w0 : World} {H0 : Hp} (hw : Holds w0 H0) (p_s : Str) (p_c : UInt8) {r : Str} (h : strings_trimLeftByte p_s p_c = some r) :
    Con Tryd.prog 76 [(str p_s), (byt p_c)] w0 H0 (fun H' v => v = (str r)) := by
  refine Con.mk (N := 17) Tryd.func76 rfl rfl (by kernel_rfl) rfl ?_
  have S := St.start hw
  refine WP.seq ?_
  refine WP.region ?_
  refine WL.valw (R.as (v := (str [])) rfl) ?_
  refine WL.nil ?_
  refine WP.seq ?_
  obtain ⟨s_6, hr12, h⟩ := bindE h
  refine WP.cut (fun f w => ∃ (H5 : Hp), f 0 = (str s_6) ∧ St w0 H0 w H5 []) ?_ ?_
  · refine WP.block ?_
    refine WP.loopM (strings_trimLeftByte_L0 p_c) (fun s f w => match s with | s_2 => ∃ (H1 : Hp), f 0 = (str s_2) ∧ f 1 = (byt p_c) ∧ St w0 H0 w H1 []) p_s s_6 hr12 ?_ ?_
    · exact ⟨H0, rfl, rfl, S⟩
    · intro s_2 f w hI y8 hy9 hy10
      obtain ⟨H1, h3, h4, S⟩ := hI
      refine WP.seq ?_
      refine WP.seq ?_
      refine WP.region ?_
      refine WL.valw (R.mv (v := (str s_2)) h3) ?_
      refine WL.valw (R.lenS (a := s_2) rfl Tryd.underlying9) ?_
      refine WL.valw (R.gtr rfl rfl) ?_
      refine WL.valw (R.mv (v := (boo (decide (0 < (s_2.length : Int))))) rfl) ?_
      obtain ⟨b16, hg14, hy9⟩ := bindE hy9
      refine WL.grp 5 [9, 10, 11, 12] 13 (boo b16) ?_ ?_
      · rcases boolE (decide (0 < (s_2.length : Int))) with hb13 | hb13
        · replace hg14 := condT hg14 hb13
          refine WL.gyes rfl rfl hb13 ?_
          refine WL.valw (R.mv (v := (str s_2)) h3) ?_
          refine WL.gyes rfl rfl hb13 ?_
          obtain ⟨c15, hc15, hg14⟩ := bindE hg14
          refine WL.valw (R.idxS rfl rfl Tryd.underlying9 hc15) ?_
          refine WL.gyes rfl rfl hb13 ?_
          refine WL.valw (R.mv (v := (byt p_c)) h4) ?_
          refine WL.gyes rfl rfl hb13 ?_
          refine WL.valw (R.eql8 (a := c15) (b := p_c) rfl rfl) ?_
          refine WL.valw (R.pickT rfl hb13 rfl) ?_
          exact WL.nil ⟨(congrArg boo (Option.some.inj hg14)), (by repeat (first | refine agree_upd rfl ?_ | refine agree_upds' rfl ?_ | exact agree_refl)), rfl⟩
        · replace hg14 := condF hg14 hb13
          refine WL.gno rfl rfl hb13 ?_
          refine WL.gno rfl rfl hb13 ?_
          refine WL.gno rfl rfl hb13 ?_
          refine WL.gno rfl rfl hb13 ?_
          refine WL.valw (R.pickF rfl hb13 rfl) ?_
          exact WL.nil ⟨(congrArg boo (Option.some.inj hg14)), (by repeat (first | refine agree_upd rfl ?_ | refine agree_upds' rfl ?_ | exact agree_refl)), rfl⟩
      · intro us
        refine WL.nil ?_
        rcases condE hy9 with ⟨hc17, hy9⟩ | ⟨hc17, hy9⟩
        · refine WP.condT rfl hc17 ?_
          refine WP.skip ?_
          refine WP.block ?_
          refine WP.region ?_
          refine WL.valw (R.mv (v := (str s_2)) h3) ?_
          obtain ⟨s18, hs18, hy9⟩ := bindE hy9
          refine WL.valw (R.subSlo rfl rfl Tryd.underlying9 hs18) ?_
          refine WL.valw (R.as (v := (str s18)) rfl) ?_
          refine WL.nil ?_
          obtain rfl := Option.some.inj hy9
          exact ⟨rfl, ⟨H1, rfl, h4, S⟩⟩
        · refine WP.condF rfl hc17 ?_
          refine WP.exit ?_
          obtain rfl := Option.some.inj hy9
          obtain rfl := hy10
          exact ⟨H1, h3, S⟩
  · rintro f w ⟨H5, h7, S⟩
    refine WP.seq ?_
    refine WP.region ?_
    refine WL.valw (R.mv (v := (str s_6)) h7) ?_
    refine WL.valw (R.as (v := (str s_6)) rfl) ?_
    refine WL.nil ?_
    obtain rfl := Option.some.inj h
    refine WP.ret (Out.one rfl S rfl ?_)
    exact rfl
set_option maxHeartbeats 4000000 in
theorem strings_trimLeftASCII_ok {w0 : World} {H0 : Hp} (hw : Holds w0 H0) (p_s : Str) (p_as : Str) {bp_as : Nat} (Ap_as : At H0 ⟨bp_as, 0, none⟩ (setc p_as)) {r : Str} (h : strings_trimLeftASCII p_s p_as = some r) :
    Con Tryd.prog 77 [(str p_s), (ptr bp_as 0)] w0 H0 (fun H' v => v = (str r)) := by
  refine Con.mk (N := 16) Tryd.func77 rfl rfl (by kernel_rfl) rfl ?_
  have S := St.start hw
  refine WP.seq ?_
  refine WP.region ?_
  refine WL.valw (R.as (v := (str [])) rfl) ?_
  refine WL.nil ?_
  refine WP.seq ?_
  obtain ⟨s_6, hr12, h⟩ := bindE h
  refine WP.cut (fun f w => ∃ (H5 : Hp), f 0 = (str s_6) ∧ St w0 H0 w H5 []) ?_ ?_
  · refine WP.block ?_
    refine WP.loopM (strings_trimLeftASCII_L0 p_as) (fun s f w => match s with | s_2 => ∃ (H1 : Hp), f 0 = (str s_2) ∧ f 1 = (ptr bp_as 0) ∧ At H1 ⟨bp_as, 0, none⟩ (setc p_as) ∧ St w0 H0 w H1 []) p_s s_6 hr12 ?_ ?_
    · exact ⟨H0, rfl, rfl, Ap_as, S⟩
    · intro s_2 f w hI y8 hy9 hy10
      obtain ⟨H1, h3, h4, Ap_as, S⟩ := hI
      refine WP.seq ?_
      refine WP.seq ?_
      refine WP.region ?_
      refine WL.valw (R.mv (v := (str s_2)) h3) ?_
      refine WL.valw (R.lenS (a := s_2) rfl Tryd.underlying9) ?_
      refine WL.valw (R.gtr rfl rfl) ?_
      refine WL.nil ?_
      rcases condE hy9 with ⟨hc13, hy9⟩ | ⟨hc13, hy9⟩
      · refine WP.condT rfl hc13 ?_
        refine WP.skip ?_
        refine WP.block ?_
        refine WP.seq ?_
        refine WP.seq ?_
        refine WP.region ?_
        refine WL.valw (R.mv (v := (ptr bp_as 0)) h4) ?_
        refine WL.valw (R.mv (v := (str s_2)) h3) ?_
        obtain ⟨c14, hc14, hy9⟩ := bindE hy9
        refine WL.valw (R.idxS rfl rfl Tryd.underlying9 hc14) ?_
        obtain ⟨r15, hr15, hy9⟩ := bindE hy9
        refine W.call S rfl (strings_asciiSet_contains_ok S.holds p_as c14 Ap_as hr15) ?_
        rintro v16 w17 H18 hle19 S rfl
        have Ap_as := At.mono Ap_as hle19 (by intro h; have := congrArg List.length h; rw [setc_len] at this; cases this)
        refine WL.valw (R.not rfl) ?_
        refine WL.nil ?_
        rcases condE hy9 with ⟨hc20, hy9⟩ | ⟨hc20, hy9⟩
        · refine WP.condT rfl hc20 ?_
          refine WP.exit ?_
          obtain rfl := Option.some.inj hy9
          obtain rfl := hy10
          exact ⟨H18, h3, S⟩
        · refine WP.condF rfl hc20 ?_
          refine WP.skip ?_
          refine WP.region ?_
          refine WL.valw (R.mv (v := (str s_2)) h3) ?_
          obtain ⟨s21, hs21, hy9⟩ := bindE hy9
          refine WL.valw (R.subSlo rfl rfl Tryd.underlying9 hs21) ?_
          refine WL.valw (R.as (v := (str s21)) rfl) ?_
          refine WL.nil ?_
          obtain rfl := Option.some.inj hy9
          exact ⟨rfl, ⟨H18, rfl, h4, Ap_as, S⟩⟩
      · refine WP.condF rfl hc13 ?_
        refine WP.exit ?_
        obtain rfl := Option.some.inj hy9
        obtain rfl := hy10
        exact ⟨H1, h3, S⟩
  · rintro f w ⟨H5, h7, S⟩
    refine WP.seq ?_
    refine WP.region ?_
    refine WL.valw (R.mv (v := (str s_6)) h7) ?_
    refine WL.valw (R.as (v := (str s_6)) rfl) ?_
    refine WL.nil ?_
    obtain rfl := Option.some.inj h
    refine WP.ret (Out.one rfl S rfl ?_)
    exact rfl
set_option maxHeartbeats 4000000 in
theorem strings_Trim_ok {w0 : World} {H0 : Hp} (hw : Holds w0 H0) (p_s : Str) (p_cutset : Str) {r : Str} (h : strings_Trim p_s p_cutset = some r) :
    Con Tryd.prog 62 [(str p_s), (str p_cutset)] w0 H0 (fun H' v => v = (str r)) := by
  refine Con.mk (N := 43) Tryd.func62 rfl rfl (by kernel_rfl) rfl ?_
  have S := St.start hw
  refine WP.seq ?_
  refine WP.region ?_
  refine WL.valw (R.as (v := (str [])) rfl) ?_
  refine WL.nil ?_
  refine WP.seq ?_
  refine WP.seq ?_
  refine WP.region ?_
  refine WL.valw (R.mv (v := (str p_s)) rfl) ?_
  refine WL.valw (R.eqlS (a := p_s) (b := []) rfl rfl) ?_
  refine WL.valw (R.mv (v := (boo (p_s == []))) rfl) ?_
  refine WL.grp 3 [10, 11] 12 (boo ((p_s == []) || (p_cutset == []))) ?_ ?_
  · rcases boolE (p_s == []) with hb1 | hb1
    · refine WL.gno rfl rfl hb1 ?_
      refine WL.gno rfl rfl hb1 ?_
      refine WL.valw (R.pickT rfl hb1 rfl) ?_
      exact WL.nil ⟨(orT hb1), (by repeat (first | refine agree_upd rfl ?_ | refine agree_upds' rfl ?_ | exact agree_refl)), rfl⟩
    · refine WL.gyes rfl rfl hb1 ?_
      refine WL.valw (R.mv (v := (str p_cutset)) rfl) ?_
      refine WL.gyes rfl rfl hb1 ?_
      refine WL.valw (R.eqlS (a := p_cutset) (b := []) rfl rfl) ?_
      refine WL.valw (R.pickF rfl hb1 rfl) ?_
      exact WL.nil ⟨(orF hb1), (by repeat (first | refine agree_upd rfl ?_ | refine agree_upds' rfl ?_ | exact agree_refl)), rfl⟩
  · intro us
    refine WL.nil ?_
    rcases condE h with ⟨hc3, h⟩ | ⟨hc3, h⟩
    · refine WP.condT rfl hc3 ?_
      refine WP.seq ?_
      refine WP.region ?_
      refine WL.valw (R.mv (v := (str p_s)) rfl) ?_
      refine WL.valw (R.as (v := (str p_s)) rfl) ?_
      refine WL.nil ?_
      obtain rfl := Option.some.inj h
      refine WP.ret (Out.one rfl S rfl ?_)
      exact rfl
    · refine WP.condF rfl hc3 ?_
      refine WP.skip ?_
      refine WP.seq ?_
      refine WP.seq ?_
      refine WP.region ?_
      refine WL.valw (R.mv (v := (str p_cutset)) rfl) ?_
      refine WL.valw (R.lenS (a := p_cutset) rfl Tryd.underlying9) ?_
      refine WL.valw (R.eql rfl rfl) ?_
      refine WL.valw (R.mv (v := (boo ((p_cutset.length : Int) == 1))) rfl) ?_
      obtain ⟨b7, hg5, h⟩ := bindE h
      refine WL.grp 4 [18, 19, 20] 21 (boo b7) ?_ ?_
      · rcases boolE ((p_cutset.length : Int) == 1) with hb4 | hb4
        · replace hg5 := condT hg5 hb4
          refine WL.gyes rfl rfl hb4 ?_
          refine WL.valw (R.mv (v := (str p_cutset)) rfl) ?_
          refine WL.gyes rfl rfl hb4 ?_
          obtain ⟨c6, hc6, hg5⟩ := bindE hg5
          refine WL.valw (R.idxS rfl rfl Tryd.underlying9 hc6) ?_
          refine WL.gyes rfl rfl hb4 ?_
          refine WL.valw (R.lss8 (a := c6) (b := 128) rfl rfl) ?_
          refine WL.valw (R.pickT rfl hb4 rfl) ?_
          exact WL.nil ⟨(congrArg boo (Option.some.inj hg5)), (by repeat (first | refine agree_upd rfl ?_ | refine agree_upds' rfl ?_ | exact agree_refl)), rfl⟩
        · replace hg5 := condF hg5 hb4
          refine WL.gno rfl rfl hb4 ?_
          refine WL.gno rfl rfl hb4 ?_
          refine WL.gno rfl rfl hb4 ?_
          refine WL.valw (R.pickF rfl hb4 rfl) ?_
          exact WL.nil ⟨(congrArg boo (Option.some.inj hg5)), (by repeat (first | refine agree_upd rfl ?_ | refine agree_upds' rfl ?_ | exact agree_refl)), rfl⟩
      · intro us
        refine WL.nil ?_
        rcases condE h with ⟨hc8, h⟩ | ⟨hc8, h⟩
        · refine WP.condT rfl hc8 ?_
          refine WP.seq ?_
          refine WP.quiet S (by kernel_rfl) (by kernel_rfl) ?_
          refine WQ.val (fun _ _ => (R.mv (v := (str p_s)) rfl)) ?_
          refine WQ.val (fun _ _ => (R.mv (v := (str p_cutset)) rfl)) ?_
          obtain ⟨c12, hc12, h⟩ := bindE h
          refine WQ.val (fun _ _ => (R.idxS rfl rfl Tryd.underlying9 hc12)) ?_
          obtain ⟨r13, hr13, h⟩ := bindE h
          refine WQ.call (v := (str r13)) rfl (fun w H' hq S => strings_trimRightByte_ok S.holds p_s c12 hr13) ?_
          refine WQ.val (fun _ _ => (R.mv (v := (str p_cutset)) rfl)) ?_
          obtain ⟨c18, hc18, h⟩ := bindE h
          refine WQ.val (fun _ _ => (R.idxS rfl rfl Tryd.underlying9 hc18)) ?_
          obtain ⟨r19, hr19, h⟩ := bindE h
          refine WQ.call (v := (str r19)) rfl (fun w H' hq S => strings_trimLeftByte_ok S.holds r13 c18 hr19) ?_
          refine WQ.val (fun _ _ => (R.as (v := (str r19)) rfl)) ?_
          refine WQ.nil ?_
          intro w9 H10 hle11 S
          obtain rfl := Option.some.inj h
          refine WP.ret (Out.one rfl S rfl ?_)
          exact rfl
        · refine WP.condF rfl hc8 ?_
          refine WP.skip ?_
          refine WP.seq ?_
          refine WP.seq ?_
          refine WP.region ?_
          refine WL.valw (R.mv (v := (str p_cutset)) rfl) ?_
          obtain ⟨r24, hr24, h⟩ := bindE h
          refine W.call S rfl (strings_makeASCIISet_ok S.holds p_cutset hr24) ?_
          rintro v25 w26 H27 hle28 S rfl
          refine WL.valw (R.mv (v := (.tuple ⟨[(.agg (Lib.setCells p_cutset)), (boo true)]⟩)) rfl) ?_
          refine WL.valw (R.ext rfl rfl) ?_
          refine WL.valw (R.ext rfl rfl) ?_
          refine W.alloc (List.replicate 256 (boo false)) S zer68 ?_
          intro b29 w30 S
          refine W.store (i := 0) (setc p_cutset) S rfl rfl rfl lay68 (show (Lib.setCells p_cutset).size = 256 by have := setc_len p_cutset; simpa [setc] using this) (setc_one p_cutset) (Nat.le_of_eq (by rw [List.length_replicate])) (splice_all ((setc_len p_cutset).trans (by rw [List.length_replicate]))) ?_
          intro w31 S
          obtain ⟨H32, hle33, hs34, _, S⟩ := S.settle (i := 0) rfl
          replace S : St w0 H0 _ H32 [] := S
          have hA35 : At H32 ⟨b29, 0, none⟩ (setc p_cutset) := ⟨_, _, rfl, hs34, [], by simp⟩
          refine WL.valw (R.as (v := (boo true)) rfl) ?_
          refine WL.nil ?_
          refine WP.seq ?_
          refine WP.region ?_
          refine WL.valw (R.mv (v := (boo true)) rfl) ?_
          refine WL.nil ?_
          refine WP.condT (b := true) rfl rfl ?_
          refine WP.seq ?_
          refine WP.region ?_
          refine WL.valw (R.mv (v := (str p_s)) rfl) ?_
          obtain ⟨r36, hr36, h⟩ := bindE h
          refine W.call S rfl (strings_trimRightASCII_ok S.holds p_s p_cutset hA35 hr36) ?_
          rintro v37 w38 H39 hle40 S rfl
          have hA35 := At.mono hA35 hle40 (by intro h; have := congrArg List.length h; rw [setc_len] at this; cases this)
          obtain ⟨r41, hr41, h⟩ := bindE h
          refine W.call S rfl (strings_trimLeftASCII_ok S.holds r36 p_cutset hA35 hr41) ?_
          rintro v42 w43 H44 hle45 S rfl
          have hA35 := At.mono hA35 hle45 (by intro h; have := congrArg List.length h; rw [setc_len] at this; cases this)
          refine WL.valw (R.as (v := (str r41)) rfl) ?_
          refine WL.nil ?_
          obtain rfl := Option.some.inj h
          refine WP.ret (Out.one rfl S rfl ?_)
          exact rfl
set_option maxHeartbeats 4000000 in
theorem ascii_Trim_ok {w0 : World} {H0 : Hp} (hw : Holds w0 H0) (p_s : Str) {r : Str} (h : ascii_Trim p_s = some r) :
    Con Tryd.prog 46 [(str p_s)] w0 H0 (fun H' v => v = (str r)) := by
  refine Con.mk (N := 5) Tryd.func46 rfl rfl (by kernel_rfl) rfl ?_
  have S := St.start hw
  refine WP.seq ?_
  refine WP.region ?_
  refine WL.valw (R.as (v := (str [])) rfl) ?_
  refine WL.nil ?_
  refine WP.seq ?_
  refine WP.region ?_
  refine WL.valw (R.mv (v := (str p_s)) rfl) ?_
  obtain ⟨r1, hr1, h⟩ := bindE h
  refine W.call S rfl (strings_Trim_ok S.holds p_s [32, 9] hr1) ?_
  rintro v2 w3 H4 hle5 S rfl
  refine WL.valw (R.as (v := (str r1)) rfl) ?_
  refine WL.nil ?_
  obtain rfl := Option.some.inj h
  refine WP.ret (Out.one rfl S rfl ?_)
  exact rfl
set_option maxHeartbeats 4000000 in
theorem list_Split_ok {w0 : World} {H0 : Hp} (hw : Holds w0 H0) (p_value : Str) {r : (List Str)} (h : list_Split p_value = some r) :
    Con Tryd.prog 24 [(str p_value)] w0 H0 (fun H' v => Sl (α := Str) H' v r) := by
  refine Con.mk (N := 52) Tryd.func24 rfl rfl (by kernel_rfl) rfl ?_
  have S := St.start hw
  refine WP.seq ?_
  refine WP.region ?_
  refine WL.valw (R.as (v := (.slice none 0 0)) rfl) ?_
  refine WL.nil ?_
  refine WP.seq ?_
  refine WP.region ?_
  refine WL.valw (R.as (v := (.slice none 0 0)) rfl) ?_
  refine WL.nil ?_
  refine WP.seq ?_
  refine WP.region ?_
  refine WL.valw (R.as (v := (int 0)) rfl) ?_
  refine WL.valw (R.as (v := (int 0)) rfl) ?_
  refine WL.nil ?_
  refine WP.seq ?_
  refine WP.seq ?_
  refine WP.region ?_
  refine WL.valw (R.as (v := (int 0)) rfl) ?_
  refine WL.nil ?_
  have S := S.addNil 9 1
  obtain ⟨out_16, hr24, h⟩ := bindE h
  refine WP.cut (fun f w => ∃ (H15 : Hp) (v17 : Value), f 3 = v17 ∧ Sl (α := Str) H15 v17 out_16 ∧ St w0 H0 w H15 [.row v17 9 1 out_16.length]) ?_ ?_
  · refine WP.block ?_
    refine WP.loopM (list_Split_L0 p_value) (fun s f w => match s with | (out_5, state_9, from_11, i_13) => ∃ (H3 : Hp) (v6 : Value), f 0 = (str p_value) ∧ f 3 = v6 ∧ f 4 = (int state_9) ∧ f 5 = (int from_11) ∧ f 6 = (int i_13) ∧ Sl (α := Str) H3 v6 out_5 ∧ St w0 H0 w H3 [.row v6 9 1 out_5.length]) (([] : List Str), 0, 0, 0) out_16 hr24 ?_ ?_
    · exact ⟨H0, .slice none 0 0, rfl, rfl, rfl, rfl, rfl, Sl.nil, S⟩
    · intro s f w hI y20 hy21 hy22
      obtain ⟨out_5, state_9, from_11, i_13⟩ := s
      obtain ⟨H3, v6, h4, h8, h10, h12, h14, R7, S⟩ := hI
      refine WP.seq ?_
      refine WP.seq ?_
      refine WP.region ?_
      refine WL.valw (R.mv (v := (int i_13)) h14) ?_
      refine WL.valw (R.mv (v := (str p_value)) h4) ?_
      refine WL.valw (R.lenS (a := p_value) rfl Tryd.underlying9) ?_
      refine WL.valw (R.leq rfl rfl) ?_
      refine WL.valw (R.mv (v := (boo (decide (i_13 ≤ (p_value.length : Int))))) rfl) ?_
      refine WL.grp 4 [13, 14, 15] 16 (boo ((decide (i_13 ≤ (p_value.length : Int))) && (decide ((out_5.length : Int) < 64)))) ?_ ?_
      · rcases boolE (decide (i_13 ≤ (p_value.length : Int))) with hb25 | hb25
        · refine WL.gyes rfl rfl hb25 ?_
          refine WL.valw (R.mv (v := v6) h8) ?_
          refine WL.gyes rfl rfl hb25 ?_
          refine WL.valw (R.lenL (α := Str) (xs := out_5) (H := H3) R7 rfl Tryd.underlying31) ?_
          refine WL.gyes rfl rfl hb25 ?_
          refine WL.valw (R.lss rfl rfl) ?_
          refine WL.valw (R.pickT rfl hb25 rfl) ?_
          exact WL.nil ⟨(andT hb25), (by repeat (first | refine agree_upd rfl ?_ | refine agree_upds' rfl ?_ | exact agree_refl)), rfl⟩
        · refine WL.gno rfl rfl hb25 ?_
          refine WL.gno rfl rfl hb25 ?_
          refine WL.gno rfl rfl hb25 ?_
          refine WL.valw (R.pickF rfl hb25 rfl) ?_
          exact WL.nil ⟨(andF hb25), (by repeat (first | refine agree_upd rfl ?_ | refine agree_upds' rfl ?_ | exact agree_refl)), rfl⟩
      · intro us
        refine WL.nil ?_
        rcases condE hy21 with ⟨hc27, hy21⟩ | ⟨hc27, hy21⟩
        · refine WP.condT rfl hc27 ?_
          refine WP.skip ?_
          refine WP.seq ?_
          refine WP.block ?_
          refine WP.seq ?_
          refine WP.seq ?_
          refine WP.region ?_
          refine WL.valw (R.mv (v := (int i_13)) h14) ?_
          refine WL.valw (R.mv (v := (str p_value)) h4) ?_
          refine WL.valw (R.lenS (a := p_value) rfl Tryd.underlying9) ?_
          refine WL.valw (R.lss rfl rfl) ?_
          refine WL.valw (R.mv (v := (boo (decide (i_13 < (p_value.length : Int))))) rfl) ?_
          obtain ⟨b34, hg29, hy21⟩ := bindE hy21
          refine WL.grp 9 [24, 25, 26, 27, 28, 29, 30, 31] 32 (boo b34) ?_ ?_
          · rcases boolE (decide (i_13 < (p_value.length : Int))) with hb28 | hb28
            · replace hg29 := condT hg29 hb28
              refine WL.gyes rfl rfl hb28 ?_
              refine WL.valw (R.mv (v := (int state_9)) h10) ?_
              refine WL.gyes rfl rfl hb28 ?_
              refine WL.valw (R.neq rfl rfl) ?_
              refine WL.gyes rfl rfl hb28 ?_
              refine WL.valw (R.mv (v := (boo (state_9 != 0))) rfl) ?_
              obtain ⟨b33, hg31, hg29⟩ := bindE hg29
              refine WL.grp 5 [27, 28, 29, 30] 31 (boo b33) ?_ ?_
              · rcases boolE (state_9 != 0) with hb30 | hb30
                · replace hg31 := condT hg31 hb30
                  refine WL.gno rfl rfl hb30 ?_
                  refine WL.gno rfl rfl hb30 ?_
                  refine WL.gno rfl rfl hb30 ?_
                  refine WL.gno rfl rfl hb30 ?_
                  refine WL.gyes rfl rfl hb28 ?_
                  refine WL.valw (R.pickT rfl hb30 rfl) ?_
                  exact WL.nil ⟨(congrArg boo (Option.some.inj hg31)), (by repeat (first | refine agree_upd rfl ?_ | refine agree_upds' rfl ?_ | exact agree_refl)), rfl⟩
                · replace hg31 := condF hg31 hb30
                  refine WL.gyes rfl rfl hb30 ?_
                  refine WL.valw (R.mv (v := (str p_value)) h4) ?_
                  refine WL.gyes rfl rfl hb30 ?_
                  refine WL.valw (R.mv (v := (int i_13)) h14) ?_
                  refine WL.gyes rfl rfl hb30 ?_
                  obtain ⟨c32, hc32, hg31⟩ := bindE hg31
                  refine WL.valw (R.idxS rfl rfl Tryd.underlying9 hc32) ?_
                  refine WL.gyes rfl rfl hb30 ?_
                  refine WL.valw (R.neq8 (a := c32) (b := 44) rfl rfl) ?_
                  refine WL.gyes rfl rfl hb28 ?_
                  refine WL.valw (R.pickF rfl hb30 rfl) ?_
                  exact WL.nil ⟨(congrArg boo (Option.some.inj hg31)), (by repeat (first | refine agree_upd rfl ?_ | refine agree_upds' rfl ?_ | exact agree_refl)), rfl⟩
              · intro us
                refine WL.valw (R.pickT rfl hb28 rfl) ?_
                exact WL.nil ⟨(congrArg boo (Option.some.inj hg29)), (by repeat (first | refine agree_upd rfl ?_ | refine agree_upds' rfl ?_ | exact agree_refl)), rfl⟩
            · replace hg29 := condF hg29 hb28
              refine WL.gno rfl rfl hb28 ?_
              refine WL.gno rfl rfl hb28 ?_
              refine WL.gno rfl rfl hb28 ?_
              refine WL.gund rfl rfl ?_
              refine WL.gund rfl rfl ?_
              refine WL.gund rfl rfl ?_
              refine WL.gund rfl rfl ?_
              refine WL.gno rfl rfl hb28 ?_
              refine WL.valw (R.pickF rfl hb28 rfl) ?_
              exact WL.nil ⟨(congrArg boo (Option.some.inj hg29)), (by repeat (first | refine agree_upd rfl ?_ | refine agree_upds' rfl ?_ | exact agree_refl)), rfl⟩
          · intro us
            refine WL.nil ?_
            rcases condE hy21 with ⟨hc35, hy21⟩ | ⟨hc35, hy21⟩
            · refine WP.condT rfl hc35 ?_
              refine WP.seq ?_
              refine WP.region ?_
              refine WL.valw (R.mv (v := (int state_9)) h10) ?_
              refine WL.valw (R.mv (v := (str p_value)) h4) ?_
              refine WL.valw (R.mv (v := (int i_13)) h14) ?_
              obtain ⟨c36, hc36, hy21⟩ := bindE hy21
              refine WL.valw (R.idxS rfl rfl Tryd.underlying9 hc36) ?_
              obtain ⟨r37, hr37, hy21⟩ := bindE hy21
              refine W.call S rfl (list_step_ok S.holds state_9 c36 hr37) ?_
              rintro v38 w39 H40 hle41 S rfl
              have R7 := Sl.mono R7 hle41
              refine WL.valw (R.as (v := (int r37)) rfl) ?_
              refine WL.nil ?_
              refine WP.exit ?_
              refine WP.region ?_
              refine WL.valw (R.mv (v := (int i_13)) h14) ?_
              refine WL.valw (R.add rfl rfl) ?_
              refine WL.valw (R.as (v := (int (wr (i_13 + 1)))) rfl) ?_
              refine WL.nil ?_
              obtain rfl := Option.some.inj hy21
              exact ⟨rfl, ⟨H40, v6, h4, h8, rfl, h12, rfl, R7, S⟩⟩
            · refine WP.condF rfl hc35 ?_
              refine WP.skip ?_
              refine WP.seq ?_
              refine WP.seq ?_
              refine WP.region ?_
              refine WL.valw (R.mv (v := (str p_value)) h4) ?_
              refine WL.valw (R.mv (v := (int from_11)) h12) ?_
              refine WL.valw (R.mv (v := (int i_13)) h14) ?_
              obtain ⟨s42, hs42, hy21⟩ := bindE hy21
              refine WL.valw (R.subS rfl rfl rfl Tryd.underlying9 hs42) ?_
              obtain ⟨r43, hr43, hy21⟩ := bindE hy21
              refine W.call S rfl (ascii_Trim_ok S.holds s42 hr43) ?_
              rintro v44 w45 H46 hle47 S rfl
              have R7 := Sl.mono R7 hle47
              refine WL.valw (R.as (v := (str r43)) rfl) ?_
              refine WL.nil ?_
              refine WP.seq ?_
              refine WP.region ?_
              refine WL.valw (R.mv (v := (str r43)) rfl) ?_
              refine WL.valw (R.neqS (a := r43) (b := []) rfl rfl) ?_
              refine WL.nil ?_
              rcases condE hy21 with ⟨hc48, hy21⟩ | ⟨hc48, hy21⟩
              · refine WP.condT rfl hc48 ?_
                refine WP.region ?_
                refine WL.valw (R.mv (v := v6) h8) ?_
                refine WL.valw (R.mv (v := (str r43)) rfl) ?_
                refine W.bslice (α := Str) [(str r43)] ([r43] : List Str) S el31 rfl rfl rfl (by decide) (encS ⟨rfl, rfl⟩ enc0) ?_
                intro u49 w50 H51 hle52 R53 S
                have R7 := Sl.mono R7 hle52
                obtain ⟨l54, hl54, hy21⟩ := bindE hy21
                refine W.app (α := Str) (i := 1) S el31 rfl rfl rfl R7 R53 hl54 ?_
                intro v55 w56 H57 hle58 R59 S
                have R7 := Sl.mono R7 hle58
                have R53 := Sl.mono R53 hle58
                refine WL.valw (R.as (v := v55) rfl) ?_
                refine WL.nil ?_
                refine WP.region ?_
                refine WL.valw (R.mv (v := (int i_13)) h14) ?_
                refine WL.valw (R.add rfl rfl) ?_
                refine WL.valw (R.as (v := (int (wr (i_13 + 1)))) rfl) ?_
                refine WL.nil ?_
                refine WP.region ?_
                refine WL.valw (R.mv (v := (int i_13)) h14) ?_
                refine WL.valw (R.add rfl rfl) ?_
                refine WL.valw (R.as (v := (int (wr (i_13 + 1)))) rfl) ?_
                refine WL.nil ?_
                obtain rfl := Option.some.inj hy21
                exact ⟨rfl, ⟨H57, v55, h4, rfl, h10, rfl, rfl, R59, (S.drop _ (.cons _ (.cons_cons _ .slnil)))⟩⟩
              · refine WP.condF rfl hc48 ?_
                refine WP.skip ?_
                refine WP.region ?_
                refine WL.valw (R.mv (v := (int i_13)) h14) ?_
                refine WL.valw (R.add rfl rfl) ?_
                refine WL.valw (R.as (v := (int (wr (i_13 + 1)))) rfl) ?_
                refine WL.nil ?_
                refine WP.region ?_
                refine WL.valw (R.mv (v := (int i_13)) h14) ?_
                refine WL.valw (R.add rfl rfl) ?_
                refine WL.valw (R.as (v := (int (wr (i_13 + 1)))) rfl) ?_
                refine WL.nil ?_
                obtain rfl := Option.some.inj hy21
                exact ⟨rfl, ⟨H46, v6, h4, h8, h10, rfl, rfl, R7, S⟩⟩
        · refine WP.condF rfl hc27 ?_
          refine WP.exit ?_
          obtain rfl := Option.some.inj hy21
          obtain rfl := hy22
          exact ⟨H3, v6, h8, R7, S⟩
  · rintro f w ⟨H15, v17, h19, R18, S⟩
    refine WP.seq ?_
    refine WP.region ?_
    refine WL.valw (R.mv (v := v17) h19) ?_
    refine WL.valw (R.as (v := v17) rfl) ?_
    refine WL.nil ?_
    obtain rfl := Option.some.inj h
    refine WP.ret (Out.one rfl S rfl ?_)
    exact R18
set_option maxHeartbeats 4000000 in
theorem list_All_ok {w0 : World} {H0 : Hp} (hw : Holds w0 H0) (p_l : (List GField)) (p_name : Str) {vp_l : Value} (Rp_l : Sl (α := GField) H0 vp_l p_l) {r : (List Str)} (h : list_All p_l p_name = some r) :
    Con Tryd.prog 19 [vp_l, (str p_name)] w0 H0 (fun H' v => Sl (α := Str) H' v r) := by
  refine Con.mk (N := 26) Tryd.func19 rfl rfl (by kernel_rfl) rfl ?_
  have S := St.start hw
  refine WP.seq ?_
  refine WP.region ?_
  refine WL.valw (R.as (v := (.slice none 0 0)) rfl) ?_
  refine WL.nil ?_
  refine WP.seq ?_
  refine WP.region ?_
  refine WL.valw (R.as (v := (.slice none 0 0)) rfl) ?_
  refine WL.nil ?_
  refine WP.seq ?_
  refine WP.seq ?_
  refine WP.region ?_
  refine WL.valw (R.mv (v := vp_l) rfl) ?_
  refine WL.valw (R.mv (v := (str p_name)) rfl) ?_
  obtain ⟨r1, hr1, h⟩ := bindE h
  refine W.call S rfl (fieldline_Get_ok S.holds p_l p_name Rp_l hr1) ?_
  rintro v2 w3 H4 hle5 S R6
  have Rp_l := Sl.mono Rp_l hle5
  refine WL.valw (R.lenL (α := Str) (xs := r1) (H := H4) R6 rfl Tryd.underlying31) ?_
  refine WL.valw (R.mv (v := (int 0)) rfl) ?_
  refine WL.nil ?_
  have S := S.addNil 9 1
  obtain ⟨out_19, hr27, h⟩ := bindE h
  refine WP.cut (fun f w => ∃ (H18 : Hp) (v20 : Value), f 5 = v20 ∧ Sl (α := Str) H18 v20 out_19 ∧ St w0 H0 w H18 [.row v20 9 1 out_19.length]) ?_ ?_
  · refine WP.block ?_
    refine WP.loopM (list_All_L0 r1) (fun s f w => match s with | (out_10, y_16) => ∃ (H9 : Hp) (v11 : Value), f 5 = v11 ∧ f 10 = v2 ∧ f 11 = (int (r1.length : Int)) ∧ f 12 = (int y_16) ∧ Sl (α := Str) H9 v11 out_10 ∧ Sl (α := Str) H9 v2 r1 ∧ St w0 H0 w H9 [.row v11 9 1 out_10.length]) (([] : List Str), 0) out_19 hr27 ?_ ?_
    · exact ⟨H4, .slice none 0 0, rfl, rfl, rfl, rfl, Sl.nil, R6, S⟩
    · intro s f w hI y23 hy24 hy25
      obtain ⟨out_10, y_16⟩ := s
      obtain ⟨H9, v11, h13, h14, h15, h17, R12, R6, S⟩ := hI
      refine WP.seq ?_
      refine WP.region ?_
      refine WL.valw (R.lss h17 h15) ?_
      refine WL.nil ?_
      refine WP.seq ?_
      rcases condE hy24 with ⟨hc28, hy24⟩ | ⟨hc28, hy24⟩
      · refine WP.condT rfl hc28 ?_
        refine WP.skip ?_
        refine WP.seq ?_
        refine WP.block ?_
        refine WP.seq ?_
        refine WP.region ?_
        obtain ⟨x29, hx29, hy24⟩ := bindE hy24
        refine W.idx (α := Str) R6 h14 h17 el31 hx29 ?_
        rintro a30 _ hA31 rfl
        refine WL.valw (R.loadH (v := (str x29)) S rfl hA31 lay9 rfl) ?_
        refine WL.valw (R.as (v := (str x29)) rfl) ?_
        refine WL.nil ?_
        refine WP.region ?_
        refine WL.valw (R.mv (v := v11) h13) ?_
        refine WL.valw (R.mv (v := (str x29)) rfl) ?_
        obtain ⟨r32, hr32, hy24⟩ := bindE hy24
        refine W.call S rfl (list_Split_ok S.holds x29 hr32) ?_
        rintro v33 w34 H35 hle36 S R37
        have R12 := Sl.mono R12 hle36
        have R6 := Sl.mono R6 hle36
        have hA31 := At.mono hA31 hle36 (by simp)
        obtain ⟨l38, hl38, hy24⟩ := bindE hy24
        refine W.app (α := Str) (i := 0) S el31 rfl rfl rfl R12 R37 hl38 ?_
        intro v39 w40 H41 hle42 R43 S
        have R12 := Sl.mono R12 hle42
        have R6 := Sl.mono R6 hle42
        have hA31 := At.mono hA31 hle42 (by simp)
        have R37 := Sl.mono R37 hle42
        refine WL.valw (R.as (v := v39) rfl) ?_
        refine WL.nil ?_
        refine WP.region ?_
        refine WL.valw (R.add h17 rfl) ?_
        refine WL.valw (R.mv (v := (int (wr (y_16 + 1)))) rfl) ?_
        refine WL.nil ?_
        obtain rfl := Option.some.inj hy24
        exact ⟨rfl, ⟨H41, v39, rfl, h14, h15, rfl, R43, R6, S⟩⟩
      · refine WP.condF rfl hc28 ?_
        refine WP.exit ?_
        obtain rfl := Option.some.inj hy24
        obtain rfl := hy25
        exact ⟨H9, v11, h13, R12, S⟩
  · rintro f w ⟨H18, v20, h22, R21, S⟩
    refine WP.seq ?_
    refine WP.region ?_
    refine WL.valw (R.mv (v := v20) h22) ?_
    refine WL.valw (R.mv (v := v20) h22) ?_
    refine WL.valw (R.lenL (α := Str) (xs := out_19) (H := H18) R21 rfl Tryd.underlying31) ?_
    refine WL.valw (R.min rfl rfl) ?_
    obtain ⟨l44, hl44, h⟩ := bindE h
    refine W.subHi (α := Str) R21 rfl rfl el31 hl44 ?_
    intro v45 R46
    refine WL.valw (R.as (v := v45) rfl) ?_
    refine WL.nil ?_
    obtain rfl := Option.some.inj h
    refine WP.ret (Out.one rfl S rfl ?_)
    exact R46
set_option maxHeartbeats 4000000 in
theorem ref01_Lower_ok {w0 : World} {H0 : Hp} (hw : Holds w0 H0) (p_s : Str) {r : Str} (h : ref01_Lower p_s = some r) :
    Con Tryd.prog 23 [(str p_s)] w0 H0 (fun H' v => v = (str r)) := by
  refine Con.mk (N := 33) Tryd.func23 rfl rfl (by kernel_rfl) rfl ?_
  have S := St.start hw
  refine WP.seq ?_
  refine WP.region ?_
  refine WL.valw (R.as (v := (str [])) rfl) ?_
  refine WL.nil ?_
  refine WP.seq ?_
  refine WP.region ?_
  refine WL.valw (R.mv (v := (str p_s)) rfl) ?_
  refine W.bytes (s := p_s) S rfl Tryd.underlying9 Tryd.underlying57 Tryd.underlying5 ?_
  intro b1 c2 w3 hc2 S
  refine WL.valw (R.as (v := (.slice (some ⟨b1, 0, none⟩) p_s.length c2)) rfl) ?_
  refine WL.nil ?_
  refine WP.seq ?_
  refine WP.seq ?_
  refine WP.region ?_
  refine WL.valw (R.as (v := (int 0)) rfl) ?_
  refine WL.nil ?_
  obtain ⟨m12, hr18, h⟩ := bindE h
  refine WP.cut (fun f w => ∃ (H10 : Hp), f 3 = (.slice (some ⟨b1, 0, none⟩) p_s.length c2) ∧ m12.length = p_s.length ∧ St w0 H0 w H10 [.box b1 5 (m12.map byt)]) ?_ ?_
  · refine WP.block ?_
    refine WP.loopM (ref01_Lower_L0 p_s) (fun s f w => match s with | (i_6, m8) => ∃ (H4 : Hp), f 3 = (.slice (some ⟨b1, 0, none⟩) p_s.length c2) ∧ f 4 = (int i_6) ∧ m8.length = p_s.length ∧ St w0 H0 w H4 [.box b1 5 (m8.map byt)]) (0, p_s) m12 hr18 ?_ ?_
    · exact ⟨H0, rfl, rfl, rfl, S⟩
    · intro s f w hI y14 hy15 hy16
      obtain ⟨i_6, m8⟩ := s
      obtain ⟨H4, h5, h7, hL9, S⟩ := hI
      refine WP.seq ?_
      refine WP.seq ?_
      refine WP.region ?_
      refine WL.valw (R.mv (v := (int i_6)) h7) ?_
      refine WL.valw (R.mv (v := (.slice (some ⟨b1, 0, none⟩) p_s.length c2)) h5) ?_
      refine WL.valw (R.lenV rfl Tryd.underlying57) ?_
      refine WL.valw (R.lss rfl rfl) ?_
      refine WL.nil ?_
      rcases condE hy15 with ⟨hc19, hy15⟩ | ⟨hc19, hy15⟩
      · refine WP.condT rfl hc19 ?_
        refine WP.skip ?_
        refine WP.seq ?_
        refine WP.block ?_
        refine WP.seq ?_
        refine WP.region ?_
        refine WL.valw (R.mv (v := (.slice (some ⟨b1, 0, none⟩) p_s.length c2)) h5) ?_
        refine WL.valw (R.mv (v := (int i_6)) h7) ?_
        obtain ⟨c20, hc20, hy15⟩ := bindE hy15
        have hq21 := (map_byt_get hc20).2
        refine WL.valw (R.idxB rfl rfl el57 (by have := (map_byt_get hc20).2; have hl : m8.length = p_s.length := hL9; omega)) ?_
        obtain ⟨c22, hc22, hy15⟩ := bindE hy15
        refine WL.valw (R.loadB (i := 0) S rfl rfl lay5 (map_byt_get hc22).1) ?_
        refine WL.valw (R.geq8 (a := c22) (b := 65) rfl rfl) ?_
        refine WL.valw (R.mv (v := (boo (decide (65 ≤ c22)))) rfl) ?_
        obtain ⟨b28, hg24, hy15⟩ := bindE hy15
        refine WL.grp 6 [19, 20, 21, 22, 23] 24 (boo b28) ?_ ?_
        · rcases boolE (decide (65 ≤ c22)) with hb23 | hb23
          · replace hg24 := condT hg24 hb23
            refine WL.gyes rfl rfl hb23 ?_
            refine WL.valw (R.mv (v := (.slice (some ⟨b1, 0, none⟩) p_s.length c2)) h5) ?_
            refine WL.gyes rfl rfl hb23 ?_
            refine WL.valw (R.mv (v := (int i_6)) h7) ?_
            refine WL.gyes rfl rfl hb23 ?_
            obtain ⟨c25, hc25, hg24⟩ := bindE hg24
            have hq26 := (map_byt_get hc25).2
            refine WL.valw (R.idxB rfl rfl el57 (by have := (map_byt_get hc25).2; have hl : m8.length = p_s.length := hL9; omega)) ?_
            refine WL.gyes rfl rfl hb23 ?_
            obtain ⟨c27, hc27, hg24⟩ := bindE hg24
            refine WL.valw (R.loadB (i := 0) S rfl rfl lay5 (map_byt_get hc27).1) ?_
            refine WL.gyes rfl rfl hb23 ?_
            refine WL.valw (R.leq8 (a := c27) (b := 90) rfl rfl) ?_
            refine WL.valw (R.pickT rfl hb23 rfl) ?_
            exact WL.nil ⟨(congrArg boo (Option.some.inj hg24)), (by repeat (first | refine agree_upd rfl ?_ | refine agree_upds' rfl ?_ | exact agree_refl)), rfl⟩
          · replace hg24 := condF hg24 hb23
            refine WL.gno rfl rfl hb23 ?_
            refine WL.gno rfl rfl hb23 ?_
            refine WL.gno rfl rfl hb23 ?_
            refine WL.gno rfl rfl hb23 ?_
            refine WL.gno rfl rfl hb23 ?_
            refine WL.valw (R.pickF rfl hb23 rfl) ?_
            exact WL.nil ⟨(congrArg boo (Option.some.inj hg24)), (by repeat (first | refine agree_upd rfl ?_ | refine agree_upds' rfl ?_ | exact agree_refl)), rfl⟩
        · intro us
          refine WL.nil ?_
          rcases condE hy15 with ⟨hc29, hy15⟩ | ⟨hc29, hy15⟩
          · refine WP.condT rfl hc29 ?_
            refine WP.region ?_
            refine WL.valw (R.mv (v := (.slice (some ⟨b1, 0, none⟩) p_s.length c2)) h5) ?_
            refine WL.valw (R.mv (v := (int i_6)) h7) ?_
            obtain ⟨c30, hc30, hy15⟩ := bindE hy15
            have hq31 := (map_byt_get hc30).2
            refine WL.valw (R.idxB rfl rfl el57 (by have := (map_byt_get hc30).2; have hl : m8.length = p_s.length := hL9; omega)) ?_
            obtain ⟨c32, hc32, hy15⟩ := bindE hy15
            refine WL.valw (R.loadB (i := 0) S rfl rfl lay5 (map_byt_get hc32).1) ?_
            refine WL.valw (R.add8 (a := c32) (b := 32) rfl rfl) ?_
            obtain ⟨c33, hc33, hy15⟩ := bindE hy15
            have hq34 := (map_byt_get hc33).2
            refine WL.valw (R.idxB rfl rfl el57 (by have := (map_byt_get hc33).2; have hl : m8.length = p_s.length := hL9; omega)) ?_
            refine W.store (i := 0) ((m8.set i_6.toNat (c32 + 32)).map byt) S rfl rfl rfl lay5 rfl rfl (by rw [List.length_map]; omega) (splice_byt _ _ _ (by omega)) ?_
            intro w35 S
            refine WL.nil ?_
            refine WP.region ?_
            refine WL.valw (R.mv (v := (int i_6)) h7) ?_
            refine WL.valw (R.add rfl rfl) ?_
            refine WL.valw (R.as (v := (int (wr (i_6 + 1)))) rfl) ?_
            refine WL.nil ?_
            obtain rfl := Option.some.inj hy15
            exact ⟨rfl, ⟨H4, h5, rfl, (List.length_set.trans hL9), S⟩⟩
          · refine WP.condF rfl hc29 ?_
            refine WP.skip ?_
            refine WP.region ?_
            refine WL.valw (R.mv (v := (int i_6)) h7) ?_
            refine WL.valw (R.add rfl rfl) ?_
            refine WL.valw (R.as (v := (int (wr (i_6 + 1)))) rfl) ?_
            refine WL.nil ?_
            obtain rfl := Option.some.inj hy15
            exact ⟨rfl, ⟨H4, h5, rfl, hL9, S⟩⟩
      · refine WP.condF rfl hc19 ?_
        refine WP.exit ?_
        obtain rfl := Option.some.inj hy15
        obtain rfl := hy16
        exact ⟨H4, h5, hL9, S⟩
  · rintro f w ⟨H10, h11, hL13, S⟩
    refine WP.seq ?_
    refine WP.region ?_
    refine WL.valw (R.mv (v := (.slice (some ⟨b1, 0, none⟩) p_s.length c2)) h11) ?_
    refine WL.valw (R.strB (i := 0) (s := m12) S (by rw [show m12.length = p_s.length from hL13]; exact rfl) rfl Tryd.underlying57 Tryd.underlying9 Tryd.underlying5) ?_
    refine WL.valw (R.as (v := (str m12)) rfl) ?_
    refine WL.nil ?_
    obtain rfl := Option.some.inj h
    refine WP.ret (Out.one rfl S rfl ?_)
    exact rfl
set_option maxHeartbeats 4000000 in
theorem ref01_Fold_ok {w0 : World} {H0 : Hp} (hw : Holds w0 H0) (p_a : Str) (p_b : Str) {r : Bool} (h : ref01_Fold p_a p_b = some r) :
    Con Tryd.prog 25 [(str p_a), (str p_b)] w0 H0 (fun H' v => v = (boo r)) := by
  refine Con.mk (N := 17) Tryd.func25 rfl rfl (by kernel_rfl) rfl ?_
  have S := St.start hw
  refine WP.seq ?_
  refine WP.region ?_
  refine WL.valw (R.as (v := (boo false)) rfl) ?_
  refine WL.nil ?_
  refine WP.seq ?_
  refine WP.region ?_
  refine WL.valw (R.mv (v := (str p_a)) rfl) ?_
  refine WL.valw (R.lenS (a := p_a) rfl Tryd.underlying9) ?_
  refine WL.valw (R.mv (v := (str p_b)) rfl) ?_
  refine WL.valw (R.lenS (a := p_b) rfl Tryd.underlying9) ?_
  refine WL.valw (R.eql rfl rfl) ?_
  refine WL.valw (R.mv (v := (boo ((p_a.length : Int) == (p_b.length : Int)))) rfl) ?_
  obtain ⟨b13, hg2, h⟩ := bindE h
  refine WL.grpw 6 [11, 12, 13, 14, 15] 16 (boo b13) (fun w => ∃ H' : Hp, H0.le H' ∧ St w0 H0 w H' []) ?_ ?_
  · rcases boolE ((p_a.length : Int) == (p_b.length : Int)) with hb1 | hb1
    · replace hg2 := condT hg2 hb1
      refine WL.gyes rfl rfl hb1 ?_
      refine WL.valw (R.mv (v := (str p_a)) rfl) ?_
      refine WL.gyes rfl rfl hb1 ?_
      obtain ⟨r3, hr3, hg2⟩ := bindE hg2
      refine W.call S rfl (ref01_Lower_ok S.holds p_a hr3) ?_
      rintro v4 w5 H6 hle7 S rfl
      refine WL.gyes rfl rfl hb1 ?_
      refine WL.valw (R.mv (v := (str p_b)) rfl) ?_
      refine WL.gyes rfl rfl hb1 ?_
      obtain ⟨r8, hr8, hg2⟩ := bindE hg2
      refine W.call S rfl (ref01_Lower_ok S.holds p_b hr8) ?_
      rintro v9 w10 H11 hle12 S rfl
      refine WL.gyes rfl rfl hb1 ?_
      refine WL.valw (R.eqlS (a := r3) (b := r8) rfl rfl) ?_
      refine WL.valw (R.pickT rfl hb1 rfl) ?_
      exact WL.nil ⟨(congrArg boo (Option.some.inj hg2)), (by repeat (first | refine agree_upd rfl ?_ | refine agree_upds' rfl ?_ | exact agree_refl)), ⟨H11, (hle7.trans hle12), S⟩⟩
    · replace hg2 := condF hg2 hb1
      refine WL.gno rfl rfl hb1 ?_
      refine WL.gno rfl rfl hb1 ?_
      refine WL.gno rfl rfl hb1 ?_
      refine WL.gno rfl rfl hb1 ?_
      refine WL.gno rfl rfl hb1 ?_
      refine WL.valw (R.pickF rfl hb1 rfl) ?_
      exact WL.nil ⟨(congrArg boo (Option.some.inj hg2)), (by repeat (first | refine agree_upd rfl ?_ | refine agree_upds' rfl ?_ | exact agree_refl)), ⟨H0, (Hp.le.refl _), S⟩⟩
  · intro us w15 ⟨H14, hle16, S⟩
    refine WL.valw (R.as (v := (boo b13)) rfl) ?_
    refine WL.nil ?_
    obtain rfl := Option.some.inj h
    refine WP.ret (Out.one rfl S rfl ?_)
    exact rfl
set_option maxHeartbeats 4000000 in
theorem ref01_Get_ok {w0 : World} {H0 : Hp} (hw : Holds w0 H0) (p_l : (List GField)) (p_name : Str) {vp_l : Value} (Rp_l : Sl (α := GField) H0 vp_l p_l) {r : (List Str)} (h : ref01_Get p_l p_name = some r) :
    Con Tryd.prog 42 [vp_l, (str p_name)] w0 H0 (fun H' v => Sl (α := Str) H' v r) := by
  refine Con.mk (N := 29) Tryd.func42 rfl rfl (by kernel_rfl) rfl ?_
  have S := St.start hw
  refine WP.seq ?_
  refine WP.region ?_
  refine WL.valw (R.as (v := (.slice none 0 0)) rfl) ?_
  refine WL.nil ?_
  refine WP.seq ?_
  refine WP.region ?_
  refine WL.valw (R.as (v := (.slice none 0 0)) rfl) ?_
  refine WL.nil ?_
  refine WP.seq ?_
  refine WP.seq ?_
  refine WP.region ?_
  refine WL.valw (R.as (v := (int 0)) rfl) ?_
  refine WL.nil ?_
  have S := S.addNil 9 1
  obtain ⟨out_13, hr21, h⟩ := bindE h
  refine WP.cut (fun f w => ∃ (H12 : Hp) (v14 : Value), f 5 = v14 ∧ Sl (α := Str) H12 v14 out_13 ∧ St w0 H0 w H12 [.row v14 9 1 out_13.length]) ?_ ?_
  · refine WP.block ?_
    refine WP.loopM (ref01_Get_L0 p_l p_name) (fun s f w => match s with | (out_6, i_10) => ∃ (H3 : Hp) (v7 : Value), f 0 = vp_l ∧ f 1 = (str p_name) ∧ f 5 = v7 ∧ f 6 = (int i_10) ∧ Sl (α := GField) H3 vp_l p_l ∧ Sl (α := Str) H3 v7 out_6 ∧ St w0 H0 w H3 [.row v7 9 1 out_6.length]) (([] : List Str), 0) out_13 hr21 ?_ ?_
    · exact ⟨H0, .slice none 0 0, rfl, rfl, rfl, rfl, Rp_l, Sl.nil, S⟩
    · intro s f w hI y17 hy18 hy19
      obtain ⟨out_6, i_10⟩ := s
      obtain ⟨H3, v7, h4, h5, h9, h11, Rp_l, R8, S⟩ := hI
      refine WP.seq ?_
      refine WP.seq ?_
      refine WP.region ?_
      refine WL.valw (R.mv (v := (int i_10)) h11) ?_
      refine WL.valw (R.mv (v := vp_l) h4) ?_
      refine WL.valw (R.lenL (α := GField) (xs := p_l) (H := H3) Rp_l rfl Tryd.underlying28) ?_
      refine WL.valw (R.lss rfl rfl) ?_
      refine WL.nil ?_
      rcases condE hy18 with ⟨hc22, hy18⟩ | ⟨hc22, hy18⟩
      · refine WP.condT rfl hc22 ?_
        refine WP.skip ?_
        refine WP.seq ?_
        refine WP.block ?_
        refine WP.seq ?_
        refine WP.region ?_
        refine WL.valw (R.mv (v := vp_l) h4) ?_
        refine WL.valw (R.mv (v := (int i_10)) h11) ?_
        obtain ⟨x23, hx23, hy18⟩ := bindE hy18
        refine W.idx (α := GField) Rp_l rfl rfl el28 hx23 ?_
        rintro a24 _ hA25 rfl
        refine WL.valw (R.field rfl fld36_0) ?_
        have hA26 := At.add hA25 0 (by simp)
        refine WL.valw (R.loadH (v := (str x23.fName)) S rfl hA26 lay9 rfl) ?_
        refine WL.valw (R.mv (v := (str p_name)) h5) ?_
        obtain ⟨r27, hr27, hy18⟩ := bindE hy18
        refine W.call S rfl (ref01_Fold_ok S.holds x23.fName p_name hr27) ?_
        rintro v28 w29 H30 hle31 S rfl
        have Rp_l := Sl.mono Rp_l hle31
        have R8 := Sl.mono R8 hle31
        have hA25 := At.mono hA25 hle31 (by simp)
        have hA26 := At.mono hA26 hle31 (by simp)
        refine WL.nil ?_
        rcases condE hy18 with ⟨hc32, hy18⟩ | ⟨hc32, hy18⟩
        · refine WP.condT rfl hc32 ?_
          refine WP.region ?_
          refine WL.valw (R.mv (v := v7) h9) ?_
          refine WL.valw (R.mv (v := vp_l) h4) ?_
          refine WL.valw (R.mv (v := (int i_10)) h11) ?_
          obtain ⟨x33, hx33, hy18⟩ := bindE hy18
          refine W.idx (α := GField) Rp_l rfl rfl el28 hx33 ?_
          rintro a34 _ hA35 rfl
          refine WL.valw (R.field rfl fld36_1) ?_
          have hA36 := At.add hA35 1 (by simp)
          refine WL.valw (R.loadH (v := (str x33.fValue)) S rfl hA36 lay9 rfl) ?_
          refine W.bslice (α := Str) [(str x33.fValue)] ([x33.fValue] : List Str) S el31 rfl rfl rfl (by decide) (encS ⟨rfl, rfl⟩ enc0) ?_
          intro u37 w38 H39 hle40 R41 S
          have Rp_l := Sl.mono Rp_l hle40
          have R8 := Sl.mono R8 hle40
          have hA25 := At.mono hA25 hle40 (by simp)
          have hA26 := At.mono hA26 hle40 (by simp)
          have hA35 := At.mono hA35 hle40 (by simp)
          have hA36 := At.mono hA36 hle40 (by simp)
          obtain ⟨l42, hl42, hy18⟩ := bindE hy18
          refine W.app (α := Str) (i := 1) S el31 rfl rfl rfl R8 R41 hl42 ?_
          intro v43 w44 H45 hle46 R47 S
          have Rp_l := Sl.mono Rp_l hle46
          have R8 := Sl.mono R8 hle46
          have hA25 := At.mono hA25 hle46 (by simp)
          have hA26 := At.mono hA26 hle46 (by simp)
          have hA35 := At.mono hA35 hle46 (by simp)
          have hA36 := At.mono hA36 hle46 (by simp)
          have R41 := Sl.mono R41 hle46
          refine WL.valw (R.as (v := v43) rfl) ?_
          refine WL.nil ?_
          refine WP.region ?_
          refine WL.valw (R.mv (v := (int i_10)) h11) ?_
          refine WL.valw (R.add rfl rfl) ?_
          refine WL.valw (R.as (v := (int (wr (i_10 + 1)))) rfl) ?_
          refine WL.nil ?_
          obtain rfl := Option.some.inj hy18
          exact ⟨rfl, ⟨H45, v43, h4, h5, rfl, rfl, Rp_l, R47, (S.drop _ (.cons _ (.cons_cons _ .slnil)))⟩⟩
        · refine WP.condF rfl hc32 ?_
          refine WP.skip ?_
          refine WP.region ?_
          refine WL.valw (R.mv (v := (int i_10)) h11) ?_
          refine WL.valw (R.add rfl rfl) ?_
          refine WL.valw (R.as (v := (int (wr (i_10 + 1)))) rfl) ?_
          refine WL.nil ?_
          obtain rfl := Option.some.inj hy18
          exact ⟨rfl, ⟨H30, v7, h4, h5, h9, rfl, Rp_l, R8, S⟩⟩
      · refine WP.condF rfl hc22 ?_
        refine WP.exit ?_
        obtain rfl := Option.some.inj hy18
        obtain rfl := hy19
        exact ⟨H3, v7, h9, R8, S⟩
  · rintro f w ⟨H12, v14, h16, R15, S⟩
    refine WP.seq ?_
    refine WP.region ?_
    refine WL.valw (R.mv (v := v14) h16) ?_
    refine WL.valw (R.as (v := v14) rfl) ?_
    refine WL.nil ?_
    obtain rfl := Option.some.inj h
    refine WP.ret (Out.one rfl S rfl ?_)
    exact R15
set_option maxHeartbeats 4000000 in
theorem ref01_Cut_ok {w0 : World} {H0 : Hp} (hw : Holds w0 H0) (p_s : Str) (p_at : UInt8) {r : (List Str)} (h : ref01_Cut p_s p_at = some r) :
    Con Tryd.prog 43 [(str p_s), (byt p_at)] w0 H0 (fun H' v => Sl (α := Str) H' v r) := by
  refine Con.mk (N := 57) Tryd.func43 rfl rfl (by kernel_rfl) rfl ?_
  have S := St.start hw
  refine WP.seq ?_
  refine WP.region ?_
  refine WL.valw (R.as (v := (.slice none 0 0)) rfl) ?_
  refine WL.nil ?_
  refine WP.seq ?_
  refine WP.region ?_
  refine WL.valw (R.as (v := (.slice none 0 0)) rfl) ?_
  refine WL.nil ?_
  refine WP.seq ?_
  refine WP.region ?_
  refine WL.valw (R.as (v := (int 0)) rfl) ?_
  refine WL.valw (R.as (v := (boo false)) rfl) ?_
  refine WL.nil ?_
  refine WP.seq ?_
  refine WP.seq ?_
  refine WP.region ?_
  refine WL.valw (R.as (v := (int 0)) rfl) ?_
  refine WL.nil ?_
  have S := S.addNil 9 1
  obtain ⟨r27, hr28, h⟩ := bindE h
  refine WP.cut (fun f w => match r27 with | (out_18, from_22) => ∃ (H16 : Hp) (v19 : Value), f 0 = (str p_s) ∧ f 5 = v19 ∧ f 6 = (int from_22) ∧ Sl (α := Str) H16 v19 out_18 ∧ St w0 H0 w H16 [.row v19 9 1 out_18.length]) ?_ ?_
  · refine WP.block ?_
    refine WP.loopM (ref01_Cut_L0 p_s p_at) (fun s f w => match s with | (out_6, from_10, quoted_12, i_14) => ∃ (H3 : Hp) (v7 : Value), f 0 = (str p_s) ∧ f 1 = (byt p_at) ∧ f 5 = v7 ∧ f 6 = (int from_10) ∧ f 7 = (boo quoted_12) ∧ f 8 = (int i_14) ∧ Sl (α := Str) H3 v7 out_6 ∧ St w0 H0 w H3 [.row v7 9 1 out_6.length]) (([] : List Str), 0, false, 0) r27 hr28 ?_ ?_
    · exact ⟨H0, .slice none 0 0, rfl, rfl, rfl, rfl, rfl, rfl, Sl.nil, S⟩
    · intro s f w hI y24 hy25 hy26
      obtain ⟨out_6, from_10, quoted_12, i_14⟩ := s
      obtain ⟨H3, v7, h4, h5, h9, h11, h13, h15, R8, S⟩ := hI
      refine WP.seq ?_
      refine WP.seq ?_
      refine WP.region ?_
      refine WL.valw (R.mv (v := (int i_14)) h15) ?_
      refine WL.valw (R.mv (v := (str p_s)) h4) ?_
      refine WL.valw (R.lenS (a := p_s) rfl Tryd.underlying9) ?_
      refine WL.valw (R.lss rfl rfl) ?_
      refine WL.nil ?_
      rcases condE hy25 with ⟨hc29, hy25⟩ | ⟨hc29, hy25⟩
      · refine WP.condT rfl hc29 ?_
        refine WP.skip ?_
        refine WP.seq ?_
        refine WP.block ?_
        refine WP.block ?_
        refine WP.seq ?_
        refine WP.region ?_
        refine WL.valw (R.mv (v := (boo quoted_12)) h13) ?_
        refine WL.valw (R.mv (v := (boo quoted_12)) rfl) ?_
        obtain ⟨b33, hg31, hy25⟩ := bindE hy25
        refine WL.grp 5 [18, 19, 20, 21] 22 (boo b33) ?_ ?_
        · rcases boolE quoted_12 with hb30 | hb30
          · replace hg31 := condT hg31 hb30
            refine WL.gyes rfl rfl hb30 ?_
            refine WL.valw (R.mv (v := (str p_s)) h4) ?_
            refine WL.gyes rfl rfl hb30 ?_
            refine WL.valw (R.mv (v := (int i_14)) h15) ?_
            refine WL.gyes rfl rfl hb30 ?_
            obtain ⟨c32, hc32, hg31⟩ := bindE hg31
            refine WL.valw (R.idxS rfl rfl Tryd.underlying9 hc32) ?_
            refine WL.gyes rfl rfl hb30 ?_
            refine WL.valw (R.eql8 (a := c32) (b := 92) rfl rfl) ?_
            refine WL.valw (R.pickT rfl hb30 rfl) ?_
            exact WL.nil ⟨(congrArg boo (Option.some.inj hg31)), (by repeat (first | refine agree_upd rfl ?_ | refine agree_upds' rfl ?_ | exact agree_refl)), rfl⟩
          · replace hg31 := condF hg31 hb30
            refine WL.gno rfl rfl hb30 ?_
            refine WL.gno rfl rfl hb30 ?_
            refine WL.gno rfl rfl hb30 ?_
            refine WL.gno rfl rfl hb30 ?_
            refine WL.valw (R.pickF rfl hb30 rfl) ?_
            exact WL.nil ⟨(congrArg boo (Option.some.inj hg31)), (by repeat (first | refine agree_upd rfl ?_ | refine agree_upds' rfl ?_ | exact agree_refl)), rfl⟩
        · intro us
          refine WL.valw (R.as (v := (boo b33)) rfl) ?_
          refine WL.nil ?_
          rcases condE hy25 with ⟨hc34, hy25⟩ | ⟨hc34, hy25⟩
          · refine WP.condT rfl hc34 ?_
            refine WP.region ?_
            refine WL.valw (R.mv (v := (int i_14)) h15) ?_
            refine WL.valw (R.add rfl rfl) ?_
            refine WL.valw (R.as (v := (int (wr (i_14 + 1)))) rfl) ?_
            refine WL.nil ?_
            refine WP.region ?_
            refine WL.valw (R.mv (v := (int (wr (i_14 + 1)))) rfl) ?_
            refine WL.valw (R.add rfl rfl) ?_
            refine WL.valw (R.as (v := (int (wr ((wr (i_14 + 1)) + 1)))) rfl) ?_
            refine WL.nil ?_
            obtain rfl := Option.some.inj hy25
            exact ⟨rfl, ⟨H3, v7, h4, h5, h9, h11, h13, rfl, R8, S⟩⟩
          · refine WP.condF rfl hc34 ?_
            refine WP.seq ?_
            refine WP.region ?_
            refine WL.valw (R.mv (v := (str p_s)) h4) ?_
            refine WL.valw (R.mv (v := (int i_14)) h15) ?_
            obtain ⟨c35, hc35, hy25⟩ := bindE hy25
            refine WL.valw (R.idxS rfl rfl Tryd.underlying9 hc35) ?_
            refine WL.valw (R.eql8 (a := c35) (b := 34) rfl rfl) ?_
            refine WL.valw (R.as (v := (boo (c35 == 34))) rfl) ?_
            refine WL.nil ?_
            rcases condE hy25 with ⟨hc36, hy25⟩ | ⟨hc36, hy25⟩
            · refine WP.condT rfl hc36 ?_
              refine WP.region ?_
              refine WL.valw (R.mv (v := (boo quoted_12)) h13) ?_
              refine WL.valw (R.not rfl) ?_
              refine WL.valw (R.as (v := (boo (!quoted_12))) rfl) ?_
              refine WL.nil ?_
              refine WP.region ?_
              refine WL.valw (R.mv (v := (int i_14)) h15) ?_
              refine WL.valw (R.add rfl rfl) ?_
              refine WL.valw (R.as (v := (int (wr (i_14 + 1)))) rfl) ?_
              refine WL.nil ?_
              obtain rfl := Option.some.inj hy25
              exact ⟨rfl, ⟨H3, v7, h4, h5, h9, h11, rfl, rfl, R8, S⟩⟩
            · refine WP.condF rfl hc36 ?_
              refine WP.seq ?_
              refine WP.region ?_
              refine WL.valw (R.mv (v := (str p_s)) h4) ?_
              refine WL.valw (R.mv (v := (int i_14)) h15) ?_
              obtain ⟨c37, hc37, hy25⟩ := bindE hy25
              refine WL.valw (R.idxS rfl rfl Tryd.underlying9 hc37) ?_
              refine WL.valw (R.mv (v := (byt p_at)) h5) ?_
              refine WL.valw (R.eql8 (a := c37) (b := p_at) rfl rfl) ?_
              refine WL.valw (R.mv (v := (boo (c37 == p_at))) rfl) ?_
              refine WL.grp 3 [39, 40] 41 (boo ((c37 == p_at) && (!quoted_12))) ?_ ?_
              · rcases boolE (c37 == p_at) with hb38 | hb38
                · refine WL.gyes rfl rfl hb38 ?_
                  refine WL.valw (R.mv (v := (boo quoted_12)) h13) ?_
                  refine WL.gyes rfl rfl hb38 ?_
                  refine WL.valw (R.not rfl) ?_
                  refine WL.valw (R.pickT rfl hb38 rfl) ?_
                  exact WL.nil ⟨(andT hb38), (by repeat (first | refine agree_upd rfl ?_ | refine agree_upds' rfl ?_ | exact agree_refl)), rfl⟩
                · refine WL.gno rfl rfl hb38 ?_
                  refine WL.gno rfl rfl hb38 ?_
                  refine WL.valw (R.pickF rfl hb38 rfl) ?_
                  exact WL.nil ⟨(andF hb38), (by repeat (first | refine agree_upd rfl ?_ | refine agree_upds' rfl ?_ | exact agree_refl)), rfl⟩
              · intro us
                refine WL.valw (R.as (v := (boo ((c37 == p_at) && (!quoted_12)))) rfl) ?_
                refine WL.nil ?_
                rcases condE hy25 with ⟨hc40, hy25⟩ | ⟨hc40, hy25⟩
                · refine WP.condT rfl hc40 ?_
                  refine WP.seq ?_
                  refine WP.region ?_
                  refine WL.valw (R.mv (v := v7) h9) ?_
                  refine WL.valw (R.mv (v := (str p_s)) h4) ?_
                  refine WL.valw (R.mv (v := (int from_10)) h11) ?_
                  refine WL.valw (R.mv (v := (int i_14)) h15) ?_
                  obtain ⟨s41, hs41, hy25⟩ := bindE hy25
                  refine WL.valw (R.subS rfl rfl rfl Tryd.underlying9 hs41) ?_
                  refine W.bslice (α := Str) [(str s41)] ([s41] : List Str) S el31 rfl rfl rfl (by decide) (encS ⟨rfl, rfl⟩ enc0) ?_
                  intro u42 w43 H44 hle45 R46 S
                  have R8 := Sl.mono R8 hle45
                  obtain ⟨l47, hl47, hy25⟩ := bindE hy25
                  refine W.app (α := Str) (i := 1) S el31 rfl rfl rfl R8 R46 hl47 ?_
                  intro v48 w49 H50 hle51 R52 S
                  have R8 := Sl.mono R8 hle51
                  have R46 := Sl.mono R46 hle51
                  refine WL.valw (R.as (v := v48) rfl) ?_
                  refine WL.nil ?_
                  refine WP.region ?_
                  refine WL.valw (R.mv (v := (int i_14)) h15) ?_
                  refine WL.valw (R.add rfl rfl) ?_
                  refine WL.valw (R.as (v := (int (wr (i_14 + 1)))) rfl) ?_
                  refine WL.nil ?_
                  refine WP.region ?_
                  refine WL.valw (R.mv (v := (int i_14)) h15) ?_
                  refine WL.valw (R.add rfl rfl) ?_
                  refine WL.valw (R.as (v := (int (wr (i_14 + 1)))) rfl) ?_
                  refine WL.nil ?_
                  obtain rfl := Option.some.inj hy25
                  exact ⟨rfl, ⟨H50, v48, h4, h5, rfl, rfl, h13, rfl, R52, (S.drop _ (.cons _ (.cons_cons _ .slnil)))⟩⟩
                · refine WP.condF rfl hc40 ?_
                  refine WP.skip ?_
                  refine WP.region ?_
                  refine WL.valw (R.mv (v := (int i_14)) h15) ?_
                  refine WL.valw (R.add rfl rfl) ?_
                  refine WL.valw (R.as (v := (int (wr (i_14 + 1)))) rfl) ?_
                  refine WL.nil ?_
                  obtain rfl := Option.some.inj hy25
                  exact ⟨rfl, ⟨H3, v7, h4, h5, h9, h11, h13, rfl, R8, S⟩⟩
      · refine WP.condF rfl hc29 ?_
        refine WP.exit ?_
        obtain rfl := Option.some.inj hy25
        obtain rfl := hy26
        exact ⟨H3, v7, h4, h9, h11, R8, S⟩
  · intro f w hM
    obtain ⟨out_18, from_22⟩ := r27
    obtain ⟨H16, v19, h17, h21, h23, R20, S⟩ := hM
    refine WP.seq ?_
    refine WP.region ?_
    refine WL.valw (R.mv (v := v19) h21) ?_
    refine WL.valw (R.mv (v := (str p_s)) h17) ?_
    refine WL.valw (R.mv (v := (int from_22)) h23) ?_
    obtain ⟨s53, hs53, h⟩ := bindE h
    refine WL.valw (R.subSlo rfl rfl Tryd.underlying9 hs53) ?_
    refine W.bslice (α := Str) [(str s53)] ([s53] : List Str) S el31 rfl rfl rfl (by decide) (encS ⟨rfl, rfl⟩ enc0) ?_
    intro u54 w55 H56 hle57 R58 S
    have R20 := Sl.mono R20 hle57
    obtain ⟨l59, hl59, h⟩ := bindE h
    refine W.app (α := Str) (i := 1) S el31 rfl rfl rfl R20 R58 hl59 ?_
    intro v60 w61 H62 hle63 R64 S
    have R20 := Sl.mono R20 hle63
    have R58 := Sl.mono R58 hle63
    refine WL.valw (R.as (v := v60) rfl) ?_
    refine WL.nil ?_
    obtain rfl := Option.some.inj h
    refine WP.ret (Out.one rfl S rfl ?_)
    exact R64
end Go.Proofs
