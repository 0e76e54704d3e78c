/- A part of the proof of laws of the seat: written by program over the translation. -/
import Derived.Test.YtogfdiigokidaaaGreatDoorGenH4
namespace Go.Proofs
open Go.Eng Go.Eng.Pure
set_option linter.unusedVariables false
set_option maxRecDepth 10000 in
set_option maxHeartbeats 4000000 in
theorem stringslite_Cut_ok {w0 : World} {H0 : Hp} (hw : Holds w0 H0) (hG : Tryz.Gl w0) (p_s : Str) (p_sep : Str) {r : (Str × Str × Bool)} (h : stringslite_Cut p_s p_sep = some r) :
    Con Tryz.prog 129 [(str p_s), (str p_sep)] w0 H0 (fun H' v => v = (.tuple ⟨[(str r.1), (str r.2.1), (boo r.2.2)]⟩)) := by
  refine Con.mk (N := 23) Tryz.func129 rfl rfl (by kernel_rfl) rfl ?_
  have S := St.start hw
  refine WP.seq ?_
  refine WP.region ?_
  refine WL.valw (R.as (v := (str [])) rfl) ?_
  refine WL.valw (R.as (v := (str [])) rfl) ?_
  refine WL.valw (R.as (v := (boo false)) rfl) ?_
  refine WL.nil ?_
  refine WP.seq ?_
  refine WP.seq ?_
  refine WP.region ?_
  refine WL.valw (R.mv (v := (str p_s)) rfl) ?_
  refine WL.valw (R.mv (v := (str p_sep)) rfl) ?_
  obtain ⟨r1, hr1, h⟩ := bindE h
  refine W.call S rfl (stringslite_Index_ok S.holds p_s p_sep hr1) ?_
  rintro v2 w3 H4 hle5 S rfl
  refine WL.valw (R.as (v := (int r1)) rfl) ?_
  refine WL.nil ?_
  refine WP.seq ?_
  refine WP.region ?_
  refine WL.valw (R.mv (v := (int r1)) rfl) ?_
  refine WL.valw (R.geq rfl rfl) ?_
  refine WL.nil ?_
  rcases condE h with ⟨hc6, h⟩ | ⟨hc6, h⟩
  · refine WP.condT rfl hc6 ?_
    refine WP.seq ?_
    refine WP.quiet S (by kernel_rfl) (by kernel_rfl) ?_
    refine WQ.val (fun _ _ => (R.mv (v := (str p_s)) rfl)) ?_
    refine WQ.val (fun _ _ => (R.mv (v := (int r1)) rfl)) ?_
    obtain ⟨s10, hs10, h⟩ := bindE h
    refine WQ.val (fun _ _ => (R.subShi rfl rfl Tryz.underlying9 hs10)) ?_
    refine WQ.val (fun _ _ => (R.mv (v := (str p_s)) rfl)) ?_
    refine WQ.val (fun _ _ => (R.mv (v := (int r1)) rfl)) ?_
    refine WQ.val (fun _ _ => (R.mv (v := (str p_sep)) rfl)) ?_
    refine WQ.val (fun _ _ => (R.lenS (a := p_sep) rfl Tryz.underlying9)) ?_
    refine WQ.val (fun _ _ => (R.add rfl rfl)) ?_
    obtain ⟨s11, hs11, h⟩ := bindE h
    refine WQ.val (fun _ _ => (R.subSlo rfl rfl Tryz.underlying9 hs11)) ?_
    refine WQ.val (fun _ _ => (R.as (v := (str s10)) rfl)) ?_
    refine WQ.val (fun _ _ => (R.as (v := (str s11)) rfl)) ?_
    refine WQ.val (fun _ _ => (R.as (v := (boo true)) rfl)) ?_
    refine WQ.nil ?_
    intro w7 H8 hle9 S
    obtain rfl := Option.some.inj h
    refine WP.ret (Out.three rfl S rfl rfl rfl ?_)
    exact rfl
  · refine WP.condF rfl hc6 ?_
    refine WP.skip ?_
    refine WP.seq ?_
    refine WP.region ?_
    refine WL.valw (R.mv (v := (str p_s)) rfl) ?_
    refine WL.valw (R.as (v := (str p_s)) rfl) ?_
    refine WL.valw (R.as (v := (str [])) rfl) ?_
    refine WL.valw (R.as (v := (boo false)) rfl) ?_
    refine WL.nil ?_
    obtain rfl := Option.some.inj h
    refine WP.ret (Out.three rfl S rfl rfl rfl ?_)
    exact rfl
set_option maxRecDepth 10000 in
set_option maxHeartbeats 4000000 in
theorem strings_Cut_ok {w0 : World} {H0 : Hp} (hw : Holds w0 H0) (hG : Tryz.Gl w0) (p_s : Str) (p_sep : Str) {r : (Str × Str × Bool)} (h : strings_Cut p_s p_sep = some r) :
    Con Tryz.prog 86 [(str p_s), (str p_sep)] w0 H0 (fun H' v => v = (.tuple ⟨[(str r.1), (str r.2.1), (boo r.2.2)]⟩)) := by
  refine Con.mk (N := 13) Tryz.func86 rfl rfl (by kernel_rfl) rfl ?_
  have S := St.start hw
  refine WP.seq ?_
  refine WP.region ?_
  refine WL.valw (R.as (v := (str [])) rfl) ?_
  refine WL.valw (R.as (v := (str [])) rfl) ?_
  refine WL.valw (R.as (v := (boo false)) rfl) ?_
  refine WL.nil ?_
  refine WP.seq ?_
  refine WP.region ?_
  refine WL.valw (R.mv (v := (str p_s)) rfl) ?_
  refine WL.valw (R.mv (v := (str p_sep)) rfl) ?_
  obtain ⟨r1, hr1, h⟩ := bindE h
  refine W.call S rfl (stringslite_Cut_ok S.holds (hG.post S.post) p_s p_sep hr1) ?_
  rintro v2 w3 H4 hle5 S rfl
  refine WL.valw (R.ext rfl rfl) ?_
  refine WL.valw (R.ext rfl rfl) ?_
  refine WL.valw (R.ext rfl rfl) ?_
  refine WL.valw (R.as (v := (str r1.1)) rfl) ?_
  refine WL.valw (R.as (v := (str r1.2.1)) rfl) ?_
  refine WL.valw (R.as (v := (boo r1.2.2)) rfl) ?_
  refine WL.nil ?_
  obtain rfl := Option.some.inj h
  refine WP.ret (Out.three rfl S rfl rfl rfl ?_)
  exact rfl
set_option maxRecDepth 10000 in
set_option maxHeartbeats 4000000 in
theorem startline_digit_ok {w0 : World} {H0 : Hp} (hw : Holds w0 H0) (hG : Tryz.Gl w0) (p_c : UInt8) {r : Bool} (h : startline_digit p_c = some r) :
    Con Tryz.prog 198 [(byt p_c)] w0 H0 (fun H' v => v = (boo r)) := by
  refine Con.mk (N := 9) Tryz.func198 rfl rfl (by kernel_rfl) rfl ?_
  have S := St.start hw
  refine WP.seq ?_
  refine WP.region ?_
  refine WL.valw (R.as (v := (boo false)) rfl) ?_
  refine WL.nil ?_
  refine WP.seq ?_
  refine WP.region ?_
  refine WL.valw (R.mv (v := (byt p_c)) rfl) ?_
  refine WL.valw (R.geq8 (a := p_c) (b := 48) rfl rfl) ?_
  refine WL.valw (R.mv (v := (boo (decide (48 ≤ p_c)))) rfl) ?_
  refine WL.grp 3 [6, 7] 8 (boo ((decide (48 ≤ p_c)) && (decide (p_c ≤ 57)))) ?_ ?_
  · rcases boolE (decide (48 ≤ p_c)) with hb1 | hb1
    · refine WL.gyes rfl rfl hb1 ?_
      refine WL.valw (R.mv (v := (byt p_c)) rfl) ?_
      refine WL.gyes rfl rfl hb1 ?_
      refine WL.valw (R.leq8 (a := p_c) (b := 57) rfl rfl) ?_
      refine WL.valw (R.pickT rfl hb1 rfl) ?_
      exact WL.nil ⟨(andT hb1), (by repeat (first | refine agree_upd rfl ?_ | refine agree_upds' rfl ?_ | exact agree_refl)), rfl⟩
    · refine WL.gno rfl rfl hb1 ?_
      refine WL.gno rfl rfl hb1 ?_
      refine WL.valw (R.pickF rfl hb1 rfl) ?_
      exact WL.nil ⟨(andF hb1), (by repeat (first | refine agree_upd rfl ?_ | refine agree_upds' rfl ?_ | exact agree_refl)), rfl⟩
  · intro us
    refine WL.valw (R.as (v := (boo ((decide (48 ≤ p_c)) && (decide (p_c ≤ 57))))) rfl) ?_
    refine WL.nil ?_
    obtain rfl := Option.some.inj h
    refine WP.ret (Out.one rfl S rfl ?_)
    exact rfl
set_option maxRecDepth 10000 in
set_option maxHeartbeats 4000000 in
theorem startline_status_ok {w0 : World} {H0 : Hp} (hw : Holds w0 H0) (hG : Tryz.Gl w0) (p_s : Str) {r : (Int × Bool)} (h : startline_status p_s = some r) :
    Con Tryz.prog 158 [(str p_s)] w0 H0 (fun H' v => v = (.tuple ⟨[(int r.1), (boo r.2)]⟩)) := by
  refine Con.mk (N := 37) Tryz.func158 rfl rfl (by kernel_rfl) rfl ?_
  have S := St.start hw
  refine WP.seq ?_
  refine WP.region ?_
  refine WL.valw (R.as (v := (int 0)) rfl) ?_
  refine WL.valw (R.as (v := (boo false)) rfl) ?_
  refine WL.nil ?_
  refine WP.seq ?_
  refine WP.seq ?_
  refine WP.region ?_
  refine WL.valw (R.mv (v := (str p_s)) rfl) ?_
  refine WL.valw (R.lenS (a := p_s) rfl Tryz.underlying9) ?_
  refine WL.valw (R.neq rfl rfl) ?_
  refine WL.valw (R.mv (v := (boo ((p_s.length : Int) != 3))) rfl) ?_
  obtain ⟨b4, hg2, h⟩ := bindE h
  refine WL.grp 4 [10, 11, 12] 13 (boo b4) ?_ ?_
  · rcases boolE ((p_s.length : Int) != 3) with hb1 | hb1
    · replace hg2 := condT hg2 hb1
      refine WL.gno rfl rfl hb1 ?_
      refine WL.gno rfl rfl hb1 ?_
      refine WL.gno rfl rfl hb1 ?_
      refine WL.valw (R.pickT rfl hb1 rfl) ?_
      exact WL.nil ⟨(congrArg boo (Option.some.inj hg2)), (by repeat (first | refine agree_upd rfl ?_ | refine agree_upds' rfl ?_ | exact agree_refl)), rfl⟩
    · replace hg2 := condF hg2 hb1
      refine WL.gyes rfl rfl hb1 ?_
      refine WL.valw (R.mv (v := (str p_s)) rfl) ?_
      refine WL.gyes rfl rfl hb1 ?_
      obtain ⟨c3, hc3, hg2⟩ := bindE hg2
      refine WL.valw (R.idxS rfl rfl Tryz.underlying9 hc3) ?_
      refine WL.gyes rfl rfl hb1 ?_
      refine WL.valw (R.lss8 (a := c3) (b := 49) rfl rfl) ?_
      refine WL.valw (R.pickF rfl hb1 rfl) ?_
      exact WL.nil ⟨(congrArg boo (Option.some.inj hg2)), (by repeat (first | refine agree_upd rfl ?_ | refine agree_upds' rfl ?_ | exact agree_refl)), rfl⟩
  · intro us
    refine WL.valw (R.mv (v := (boo b4)) rfl) ?_
    obtain ⟨b8, hg6, h⟩ := bindE h
    refine WL.grp 4 [15, 16, 17] 18 (boo b8) ?_ ?_
    · rcases boolE b4 with hb5 | hb5
      · replace hg6 := condT hg6 hb5
        refine WL.gno rfl rfl hb5 ?_
        refine WL.gno rfl rfl hb5 ?_
        refine WL.gno rfl rfl hb5 ?_
        refine WL.valw (R.pickT rfl hb5 rfl) ?_
        exact WL.nil ⟨(congrArg boo (Option.some.inj hg6)), (by repeat (first | refine agree_upd rfl ?_ | refine agree_upds' rfl ?_ | exact agree_refl)), rfl⟩
      · replace hg6 := condF hg6 hb5
        refine WL.gyes rfl rfl hb5 ?_
        refine WL.valw (R.mv (v := (str p_s)) rfl) ?_
        refine WL.gyes rfl rfl hb5 ?_
        obtain ⟨c7, hc7, hg6⟩ := bindE hg6
        refine WL.valw (R.idxS rfl rfl Tryz.underlying9 hc7) ?_
        refine WL.gyes rfl rfl hb5 ?_
        refine WL.valw (R.gtr8 (a := c7) (b := 53) rfl rfl) ?_
        refine WL.valw (R.pickF rfl hb5 rfl) ?_
        exact WL.nil ⟨(congrArg boo (Option.some.inj hg6)), (by repeat (first | refine agree_upd rfl ?_ | refine agree_upds' rfl ?_ | exact agree_refl)), rfl⟩
    · intro us
      refine WL.valw (R.mv (v := (boo b8)) rfl) ?_
      obtain ⟨b17, hg10, h⟩ := bindE h
      refine WL.grpw 5 [20, 21, 22, 23] 24 (boo b17) (fun w => ∃ H' : Hp, H0.le H' ∧ St w0 H0 w H' []) ?_ ?_
      · rcases boolE b8 with hb9 | hb9
        · replace hg10 := condT hg10 hb9
          refine WL.gno rfl rfl hb9 ?_
          refine WL.gno rfl rfl hb9 ?_
          refine WL.gno rfl rfl hb9 ?_
          refine WL.gno rfl rfl hb9 ?_
          refine WL.valw (R.pickT rfl hb9 rfl) ?_
          exact WL.nil ⟨(congrArg boo (Option.some.inj hg10)), (by repeat (first | refine agree_upd rfl ?_ | refine agree_upds' rfl ?_ | exact agree_refl)), ⟨H0, (Hp.le.refl _), S⟩⟩
        · replace hg10 := condF hg10 hb9
          refine WL.gyes rfl rfl hb9 ?_
          refine WL.valw (R.mv (v := (str p_s)) rfl) ?_
          refine WL.gyes rfl rfl hb9 ?_
          obtain ⟨c11, hc11, hg10⟩ := bindE hg10
          refine WL.valw (R.idxS rfl rfl Tryz.underlying9 hc11) ?_
          refine WL.gyes rfl rfl hb9 ?_
          obtain ⟨r12, hr12, hg10⟩ := bindE hg10
          refine W.call S rfl (startline_digit_ok S.holds (hG.post S.post) c11 hr12) ?_
          rintro v13 w14 H15 hle16 S rfl
          refine WL.gyes rfl rfl hb9 ?_
          refine WL.valw (R.not rfl) ?_
          refine WL.valw (R.pickF rfl hb9 rfl) ?_
          exact WL.nil ⟨(congrArg boo (Option.some.inj hg10)), (by repeat (first | refine agree_upd rfl ?_ | refine agree_upds' rfl ?_ | exact agree_refl)), ⟨H15, hle16, S⟩⟩
      · intro us w19 ⟨H18, hle20, S⟩
        refine WL.valw (R.mv (v := (boo b17)) rfl) ?_
        obtain ⟨b29, hg22, h⟩ := bindE h
        refine WL.grpw 5 [26, 27, 28, 29] 30 (boo b29) (fun w => ∃ H' : Hp, H18.le H' ∧ St w0 H0 w H' []) ?_ ?_
        · rcases boolE b17 with hb21 | hb21
          · replace hg22 := condT hg22 hb21
            refine WL.gno rfl rfl hb21 ?_
            refine WL.gno rfl rfl hb21 ?_
            refine WL.gno rfl rfl hb21 ?_
            refine WL.gno rfl rfl hb21 ?_
            refine WL.valw (R.pickT rfl hb21 rfl) ?_
            exact WL.nil ⟨(congrArg boo (Option.some.inj hg22)), (by repeat (first | refine agree_upd rfl ?_ | refine agree_upds' rfl ?_ | exact agree_refl)), ⟨H18, (Hp.le.refl _), S⟩⟩
          · replace hg22 := condF hg22 hb21
            refine WL.gyes rfl rfl hb21 ?_
            refine WL.valw (R.mv (v := (str p_s)) rfl) ?_
            refine WL.gyes rfl rfl hb21 ?_
            obtain ⟨c23, hc23, hg22⟩ := bindE hg22
            refine WL.valw (R.idxS rfl rfl Tryz.underlying9 hc23) ?_
            refine WL.gyes rfl rfl hb21 ?_
            obtain ⟨r24, hr24, hg22⟩ := bindE hg22
            refine W.call S rfl (startline_digit_ok S.holds (hG.post S.post) c23 hr24) ?_
            rintro v25 w26 H27 hle28 S rfl
            refine WL.gyes rfl rfl hb21 ?_
            refine WL.valw (R.not rfl) ?_
            refine WL.valw (R.pickF rfl hb21 rfl) ?_
            exact WL.nil ⟨(congrArg boo (Option.some.inj hg22)), (by repeat (first | refine agree_upd rfl ?_ | refine agree_upds' rfl ?_ | exact agree_refl)), ⟨H27, hle28, S⟩⟩
        · intro us w31 ⟨H30, hle32, S⟩
          refine WL.nil ?_
          rcases condE h with ⟨hc33, h⟩ | ⟨hc33, h⟩
          · refine WP.condT rfl hc33 ?_
            refine WP.seq ?_
            refine WP.region ?_
            refine WL.valw (R.as (v := (int 0)) rfl) ?_
            refine WL.valw (R.as (v := (boo false)) rfl) ?_
            refine WL.nil ?_
            obtain rfl := Option.some.inj h
            refine WP.ret (Out.two rfl S rfl rfl ?_)
            exact rfl
          · refine WP.condF rfl hc33 ?_
            refine WP.skip ?_
            refine WP.seq ?_
            refine WP.region ?_
            refine WL.valw (R.mv (v := (str p_s)) rfl) ?_
            obtain ⟨r34, hr34, h⟩ := bindE h
            refine W.call S rfl (ascii_Number_ok S.holds (hG.post S.post) p_s hr34) ?_
            rintro v35 w36 H37 hle38 S rfl
            refine WL.valw (R.mv (v := (.tuple ⟨[(int r34.1), (boo r34.2)]⟩)) rfl) ?_
            refine WL.valw (R.ext rfl rfl) ?_
            refine WL.valw (R.ext rfl rfl) ?_
            refine WL.valw (R.as (v := (int r34.1)) rfl) ?_
            refine WL.valw (R.as (v := (boo r34.2)) rfl) ?_
            refine WL.nil ?_
            refine WP.seq ?_
            refine WP.region ?_
            refine WL.valw (R.mv (v := (int r34.1)) rfl) ?_
            refine WL.valw (R.as (v := (int r34.1)) rfl) ?_
            refine WL.valw (R.as (v := (boo true)) rfl) ?_
            refine WL.nil ?_
            obtain rfl := Option.some.inj h
            refine WP.ret (Out.two rfl S rfl rfl ?_)
            exact rfl
set_option maxRecDepth 10000 in
set_option maxHeartbeats 4000000 in
theorem ascii_Text_ok {w0 : World} {H0 : Hp} (hw : Holds w0 H0) (hG : Tryz.Gl w0) (p_s : Str) {r : Bool} (h : ascii_Text p_s = some r) :
    Con Tryz.prog 159 [(str p_s)] w0 H0 (fun H' v => v = (boo r)) := by
  refine Con.mk (N := 26) Tryz.func159 rfl rfl (by kernel_rfl) rfl ?_
  have S := St.start hw
  refine WP.seq ?_
  refine WP.region ?_
  refine WL.valw (R.as (v := (boo false)) rfl) ?_
  refine WL.nil ?_
  refine WP.seq ?_
  refine WP.seq ?_
  refine WP.region ?_
  refine WL.valw (R.mv (v := (str p_s)) rfl) ?_
  refine WL.valw (R.lenS (a := p_s) rfl Tryz.underlying9) ?_
  refine WL.valw (R.mv (v := (int 0)) rfl) ?_
  refine WL.nil ?_
  obtain ⟨r10, hr11, h⟩ := bindE h
  refine WP.cut (fun f w => match r10 with | .inl _ => ∃ (H6 : Hp), St w0 H0 w H6 [] | .inr _ => False) ?_ ?_
  · refine WP.block ?_
    refine WP.loopM (ascii_Text_L0 p_s) (fun s f w => match s with | y_4 => ∃ (H1 : Hp), f 0 = (str p_s) ∧ f 5 = (int (p_s.length : Int)) ∧ f 6 = (int y_4) ∧ St w0 H0 w H1 []) 0 r10 hr11 ?_ ?_
    · exact ⟨H0, rfl, rfl, rfl, S⟩
    · intro y_4 f w hI y7 hy8 hy9
      obtain ⟨H1, h2, h3, h5, S⟩ := hI
      refine WP.seq ?_
      refine WP.region ?_
      refine WL.valw (R.lss h5 h3) ?_
      refine WL.nil ?_
      refine WP.seq ?_
      rcases condE hy8 with ⟨hc12, hy8⟩ | ⟨hc12, hy8⟩
      · refine WP.condT rfl hc12 ?_
        refine WP.skip ?_
        refine WP.seq ?_
        refine WP.block ?_
        refine WP.seq ?_
        refine WP.region ?_
        refine WL.valw (R.mv (v := (int y_4)) h5) ?_
        refine WL.valw (R.as (v := (int y_4)) rfl) ?_
        refine WL.nil ?_
        refine WP.seq ?_
        refine WP.region ?_
        refine WL.valw (R.mv (v := (str p_s)) h2) ?_
        refine WL.valw (R.mv (v := (int y_4)) rfl) ?_
        obtain ⟨c13, hc13, hy8⟩ := bindE hy8
        refine WL.valw (R.idxS rfl rfl Tryz.underlying9 hc13) ?_
        refine WL.valw (R.lss8 (a := c13) (b := 32) rfl rfl) ?_
        refine WL.valw (R.mv (v := (boo (decide (c13 < 32)))) rfl) ?_
        obtain ⟨b17, hg15, hy8⟩ := bindE hy8
        refine WL.grp 5 [14, 15, 16, 17] 18 (boo b17) ?_ ?_
        · rcases boolE (decide (c13 < 32)) with hb14 | hb14
          · replace hg15 := condT hg15 hb14
            refine WL.gyes rfl rfl hb14 ?_
            refine WL.valw (R.mv (v := (str p_s)) h2) ?_
            refine WL.gyes rfl rfl hb14 ?_
            refine WL.valw (R.mv (v := (int y_4)) rfl) ?_
            refine WL.gyes rfl rfl hb14 ?_
            obtain ⟨c16, hc16, hg15⟩ := bindE hg15
            refine WL.valw (R.idxS rfl rfl Tryz.underlying9 hc16) ?_
            refine WL.gyes rfl rfl hb14 ?_
            refine WL.valw (R.neq8 (a := c16) (b := 9) rfl rfl) ?_
            refine WL.valw (R.pickT rfl hb14 rfl) ?_
            exact WL.nil ⟨(congrArg boo (Option.some.inj hg15)), (by repeat (first | refine agree_upd rfl ?_ | refine agree_upds' rfl ?_ | exact agree_refl)), rfl⟩
          · replace hg15 := condF hg15 hb14
            refine WL.gno rfl rfl hb14 ?_
            refine WL.gno rfl rfl hb14 ?_
            refine WL.gno rfl rfl hb14 ?_
            refine WL.gno rfl rfl hb14 ?_
            refine WL.valw (R.pickF rfl hb14 rfl) ?_
            exact WL.nil ⟨(congrArg boo (Option.some.inj hg15)), (by repeat (first | refine agree_upd rfl ?_ | refine agree_upds' rfl ?_ | exact agree_refl)), rfl⟩
        · intro us
          refine WL.valw (R.mv (v := (boo b17)) rfl) ?_
          obtain ⟨b21, hg19, hy8⟩ := bindE hy8
          refine WL.grp 5 [20, 21, 22, 23] 24 (boo b21) ?_ ?_
          · rcases boolE b17 with hb18 | hb18
            · replace hg19 := condT hg19 hb18
              refine WL.gno rfl rfl hb18 ?_
              refine WL.gno rfl rfl hb18 ?_
              refine WL.gno rfl rfl hb18 ?_
              refine WL.gno rfl rfl hb18 ?_
              refine WL.valw (R.pickT rfl hb18 rfl) ?_
              exact WL.nil ⟨(congrArg boo (Option.some.inj hg19)), (by repeat (first | refine agree_upd rfl ?_ | refine agree_upds' rfl ?_ | exact agree_refl)), rfl⟩
            · replace hg19 := condF hg19 hb18
              refine WL.gyes rfl rfl hb18 ?_
              refine WL.valw (R.mv (v := (str p_s)) h2) ?_
              refine WL.gyes rfl rfl hb18 ?_
              refine WL.valw (R.mv (v := (int y_4)) rfl) ?_
              refine WL.gyes rfl rfl hb18 ?_
              obtain ⟨c20, hc20, hg19⟩ := bindE hg19
              refine WL.valw (R.idxS rfl rfl Tryz.underlying9 hc20) ?_
              refine WL.gyes rfl rfl hb18 ?_
              refine WL.valw (R.eql8 (a := c20) (b := 127) rfl rfl) ?_
              refine WL.valw (R.pickF rfl hb18 rfl) ?_
              exact WL.nil ⟨(congrArg boo (Option.some.inj hg19)), (by repeat (first | refine agree_upd rfl ?_ | refine agree_upds' rfl ?_ | exact agree_refl)), rfl⟩
          · intro us
            refine WL.nil ?_
            rcases condE hy8 with ⟨hc22, hy8⟩ | ⟨hc22, hy8⟩
            · refine WP.condT rfl hc22 ?_
              refine WP.seq ?_
              refine WP.region ?_
              refine WL.valw (R.as (v := (boo false)) rfl) ?_
              refine WL.nil ?_
              obtain rfl := Option.some.inj hy8
              obtain rfl := hy9
              obtain rfl := Option.some.inj h
              refine WP.ret (Out.one rfl S rfl ?_)
              exact rfl
            · refine WP.condF rfl hc22 ?_
              refine WP.skip ?_
              refine WP.region ?_
              refine WL.valw (R.add h5 rfl) ?_
              refine WL.valw (R.mv (v := (int (wr (y_4 + 1)))) rfl) ?_
              refine WL.nil ?_
              obtain rfl := Option.some.inj hy8
              exact ⟨rfl, ⟨H1, h2, h3, rfl, S⟩⟩
      · refine WP.condF rfl hc12 ?_
        refine WP.exit ?_
        obtain rfl := Option.some.inj hy8
        obtain rfl := hy9
        exact ⟨H1, S⟩
  · intro f w hM
    rcases r10 with _ | e
    · obtain ⟨H6, S⟩ := hM
      refine WP.seq ?_
      refine WP.region ?_
      refine WL.valw (R.as (v := (boo true)) rfl) ?_
      refine WL.nil ?_
      obtain rfl := Option.some.inj h
      refine WP.ret (Out.one rfl S rfl ?_)
      exact rfl
    · exact hM.elim
set_option maxRecDepth 10000 in
set_option maxHeartbeats 4000000 in
theorem startline_version_ok {w0 : World} {H0 : Hp} (hw : Holds w0 H0) (hG : Tryz.Gl w0) (p_s : Str) {r : (Int × Unit)} (h : startline_version p_s = some r) :
    Con Tryz.prog 160 [(str p_s)] w0 H0 (fun H' v => v = (.tuple ⟨[(int r.1), .nilIface]⟩)) := by
  refine Con.mk (N := 47) Tryz.func160 rfl rfl (by kernel_rfl) rfl ?_
  have S := St.start hw
  refine WP.seq ?_
  refine WP.region ?_
  refine WL.valw (R.as (v := (int 0)) rfl) ?_
  refine WL.valw (R.as (v := .nilIface) rfl) ?_
  refine WL.nil ?_
  refine WP.seq ?_
  refine WP.seq ?_
  refine WP.region ?_
  refine WL.valw (R.mv (v := (str p_s)) rfl) ?_
  refine WL.valw (R.lenS (a := p_s) rfl Tryz.underlying9) ?_
  refine WL.valw (R.neq rfl rfl) ?_
  refine WL.valw (R.mv (v := (boo ((p_s.length : Int) != 8))) rfl) ?_
  obtain ⟨b4, hg2, h⟩ := bindE h
  refine WL.grp 4 [8, 9, 10] 11 (boo b4) ?_ ?_
  · rcases boolE ((p_s.length : Int) != 8) with hb1 | hb1
    · replace hg2 := condT hg2 hb1
      refine WL.gno rfl rfl hb1 ?_
      refine WL.gno rfl rfl hb1 ?_
      refine WL.gno rfl rfl hb1 ?_
      refine WL.valw (R.pickT rfl hb1 rfl) ?_
      exact WL.nil ⟨(congrArg boo (Option.some.inj hg2)), (by repeat (first | refine agree_upd rfl ?_ | refine agree_upds' rfl ?_ | exact agree_refl)), rfl⟩
    · replace hg2 := condF hg2 hb1
      refine WL.gyes rfl rfl hb1 ?_
      refine WL.valw (R.mv (v := (str p_s)) rfl) ?_
      refine WL.gyes rfl rfl hb1 ?_
      obtain ⟨s3, hs3, hg2⟩ := bindE hg2
      refine WL.valw (R.subShi rfl rfl Tryz.underlying9 hs3) ?_
      refine WL.gyes rfl rfl hb1 ?_
      refine WL.valw (R.neqS (a := s3) (b := [72, 84, 84, 80, 47]) rfl rfl) ?_
      refine WL.valw (R.pickF rfl hb1 rfl) ?_
      exact WL.nil ⟨(congrArg boo (Option.some.inj hg2)), (by repeat (first | refine agree_upd rfl ?_ | refine agree_upds' rfl ?_ | exact agree_refl)), rfl⟩
  · intro us
    refine WL.valw (R.mv (v := (boo b4)) rfl) ?_
    obtain ⟨b13, hg6, h⟩ := bindE h
    refine WL.grpw 5 [13, 14, 15, 16] 17 (boo b13) (fun w => ∃ H' : Hp, H0.le H' ∧ St w0 H0 w H' []) ?_ ?_
    · rcases boolE b4 with hb5 | hb5
      · replace hg6 := condT hg6 hb5
        refine WL.gno rfl rfl hb5 ?_
        refine WL.gno rfl rfl hb5 ?_
        refine WL.gno rfl rfl hb5 ?_
        refine WL.gno rfl rfl hb5 ?_
        refine WL.valw (R.pickT rfl hb5 rfl) ?_
        exact WL.nil ⟨(congrArg boo (Option.some.inj hg6)), (by repeat (first | refine agree_upd rfl ?_ | refine agree_upds' rfl ?_ | exact agree_refl)), ⟨H0, (Hp.le.refl _), S⟩⟩
      · replace hg6 := condF hg6 hb5
        refine WL.gyes rfl rfl hb5 ?_
        refine WL.valw (R.mv (v := (str p_s)) rfl) ?_
        refine WL.gyes rfl rfl hb5 ?_
        obtain ⟨c7, hc7, hg6⟩ := bindE hg6
        refine WL.valw (R.idxS rfl rfl Tryz.underlying9 hc7) ?_
        refine WL.gyes rfl rfl hb5 ?_
        obtain ⟨r8, hr8, hg6⟩ := bindE hg6
        refine W.call S rfl (startline_digit_ok S.holds (hG.post S.post) c7 hr8) ?_
        rintro v9 w10 H11 hle12 S rfl
        refine WL.gyes rfl rfl hb5 ?_
        refine WL.valw (R.not rfl) ?_
        refine WL.valw (R.pickF rfl hb5 rfl) ?_
        exact WL.nil ⟨(congrArg boo (Option.some.inj hg6)), (by repeat (first | refine agree_upd rfl ?_ | refine agree_upds' rfl ?_ | exact agree_refl)), ⟨H11, hle12, S⟩⟩
    · intro us w15 ⟨H14, hle16, S⟩
      refine WL.valw (R.mv (v := (boo b13)) rfl) ?_
      obtain ⟨b20, hg18, h⟩ := bindE h
      refine WL.grp 4 [19, 20, 21] 22 (boo b20) ?_ ?_
      · rcases boolE b13 with hb17 | hb17
        · replace hg18 := condT hg18 hb17
          refine WL.gno rfl rfl hb17 ?_
          refine WL.gno rfl rfl hb17 ?_
          refine WL.gno rfl rfl hb17 ?_
          refine WL.valw (R.pickT rfl hb17 rfl) ?_
          exact WL.nil ⟨(congrArg boo (Option.some.inj hg18)), (by repeat (first | refine agree_upd rfl ?_ | refine agree_upds' rfl ?_ | exact agree_refl)), rfl⟩
        · replace hg18 := condF hg18 hb17
          refine WL.gyes rfl rfl hb17 ?_
          refine WL.valw (R.mv (v := (str p_s)) rfl) ?_
          refine WL.gyes rfl rfl hb17 ?_
          obtain ⟨c19, hc19, hg18⟩ := bindE hg18
          refine WL.valw (R.idxS rfl rfl Tryz.underlying9 hc19) ?_
          refine WL.gyes rfl rfl hb17 ?_
          refine WL.valw (R.neq8 (a := c19) (b := 46) rfl rfl) ?_
          refine WL.valw (R.pickF rfl hb17 rfl) ?_
          exact WL.nil ⟨(congrArg boo (Option.some.inj hg18)), (by repeat (first | refine agree_upd rfl ?_ | refine agree_upds' rfl ?_ | exact agree_refl)), rfl⟩
      · intro us
        refine WL.valw (R.mv (v := (boo b20)) rfl) ?_
        obtain ⟨b29, hg22, h⟩ := bindE h
        refine WL.grpw 5 [24, 25, 26, 27] 28 (boo b29) (fun w => ∃ H' : Hp, H14.le H' ∧ St w0 H0 w H' []) ?_ ?_
        · rcases boolE b20 with hb21 | hb21
          · replace hg22 := condT hg22 hb21
            refine WL.gno rfl rfl hb21 ?_
            refine WL.gno rfl rfl hb21 ?_
            refine WL.gno rfl rfl hb21 ?_
            refine WL.gno rfl rfl hb21 ?_
            refine WL.valw (R.pickT rfl hb21 rfl) ?_
            exact WL.nil ⟨(congrArg boo (Option.some.inj hg22)), (by repeat (first | refine agree_upd rfl ?_ | refine agree_upds' rfl ?_ | exact agree_refl)), ⟨H14, (Hp.le.refl _), S⟩⟩
          · replace hg22 := condF hg22 hb21
            refine WL.gyes rfl rfl hb21 ?_
            refine WL.valw (R.mv (v := (str p_s)) rfl) ?_
            refine WL.gyes rfl rfl hb21 ?_
            obtain ⟨c23, hc23, hg22⟩ := bindE hg22
            refine WL.valw (R.idxS rfl rfl Tryz.underlying9 hc23) ?_
            refine WL.gyes rfl rfl hb21 ?_
            obtain ⟨r24, hr24, hg22⟩ := bindE hg22
            refine W.call S rfl (startline_digit_ok S.holds (hG.post S.post) c23 hr24) ?_
            rintro v25 w26 H27 hle28 S rfl
            refine WL.gyes rfl rfl hb21 ?_
            refine WL.valw (R.not rfl) ?_
            refine WL.valw (R.pickF rfl hb21 rfl) ?_
            exact WL.nil ⟨(congrArg boo (Option.some.inj hg22)), (by repeat (first | refine agree_upd rfl ?_ | refine agree_upds' rfl ?_ | exact agree_refl)), ⟨H27, hle28, S⟩⟩
        · intro us w31 ⟨H30, hle32, S⟩
          refine WL.nil ?_
          rcases condE h with ⟨hc33, h⟩ | ⟨hc33, h⟩
          · refine WP.condT rfl hc33 ?_
            refine WP.seq ?_
            refine WP.quiet S (by kernel_rfl) (by kernel_rfl) ?_
            cases h
          · refine WP.condF rfl hc33 ?_
            refine WP.skip ?_
            refine WP.seq ?_
            refine WP.seq ?_
            refine WP.region ?_
            refine WL.valw (R.mv (v := (str p_s)) rfl) ?_
            obtain ⟨c37, hc37, h⟩ := bindE h
            refine WL.valw (R.idxS rfl rfl Tryz.underlying9 hc37) ?_
            refine WL.valw (R.neq8 (a := c37) (b := 49) rfl rfl) ?_
            refine WL.valw (R.mv (v := (boo (c37 != 49))) rfl) ?_
            obtain ⟨b41, hg39, h⟩ := bindE h
            refine WL.grp 4 [36, 37, 38] 39 (boo b41) ?_ ?_
            · rcases boolE (c37 != 49) with hb38 | hb38
              · replace hg39 := condT hg39 hb38
                refine WL.gno rfl rfl hb38 ?_
                refine WL.gno rfl rfl hb38 ?_
                refine WL.gno rfl rfl hb38 ?_
                refine WL.valw (R.pickT rfl hb38 rfl) ?_
                exact WL.nil ⟨(congrArg boo (Option.some.inj hg39)), (by repeat (first | refine agree_upd rfl ?_ | refine agree_upds' rfl ?_ | exact agree_refl)), rfl⟩
              · replace hg39 := condF hg39 hb38
                refine WL.gyes rfl rfl hb38 ?_
                refine WL.valw (R.mv (v := (str p_s)) rfl) ?_
                refine WL.gyes rfl rfl hb38 ?_
                obtain ⟨c40, hc40, hg39⟩ := bindE hg39
                refine WL.valw (R.idxS rfl rfl Tryz.underlying9 hc40) ?_
                refine WL.gyes rfl rfl hb38 ?_
                refine WL.valw (R.gtr8 (a := c40) (b := 49) rfl rfl) ?_
                refine WL.valw (R.pickF rfl hb38 rfl) ?_
                exact WL.nil ⟨(congrArg boo (Option.some.inj hg39)), (by repeat (first | refine agree_upd rfl ?_ | refine agree_upds' rfl ?_ | exact agree_refl)), rfl⟩
            · intro us
              refine WL.nil ?_
              rcases condE h with ⟨hc42, h⟩ | ⟨hc42, h⟩
              · refine WP.condT rfl hc42 ?_
                refine WP.seq ?_
                refine WP.quiet S (by kernel_rfl) (by kernel_rfl) ?_
                cases h
              · refine WP.condF rfl hc42 ?_
                refine WP.skip ?_
                refine WP.seq ?_
                refine WP.region ?_
                refine WL.valw (R.mv (v := (str p_s)) rfl) ?_
                obtain ⟨c46, hc46, h⟩ := bindE h
                refine WL.valw (R.idxS rfl rfl Tryz.underlying9 hc46) ?_
                refine WL.valw (R.sub8 (a := c46) (b := 48) rfl rfl) ?_
                refine WL.valw (R.i64of8 (a := c46 - 48) rfl Tryz.underlying5 Tryz.underlying3) ?_
                refine WL.valw (R.as (v := (int ((c46 - 48).toNat : Int))) rfl) ?_
                refine WL.valw (R.as (v := .nilIface) rfl) ?_
                refine WL.nil ?_
                obtain rfl := Option.some.inj h
                refine WP.ret (Out.two rfl S rfl rfl ?_)
                exact rfl
set_option maxRecDepth 10000 in
set_option maxHeartbeats 4000000 in
theorem startline_ParseStatus_ok {w0 : World} {H0 : Hp} (hw : Holds w0 H0) (hG : Tryz.Gl w0) (p_line : Str) {r : (Int × Int × Str × Int)} (h : startline_ParseStatus p_line = some r) :
    Con Tryz.prog 116 [(str p_line)] w0 H0 (fun H' v => v = (.tuple ⟨[(int r.1), (int r.2.1), (str r.2.2.1), (int r.2.2.2)]⟩)) := by
  refine Con.mk (N := 59) Tryz.func116 rfl rfl (by kernel_rfl) rfl ?_
  have S := St.start hw
  refine WP.seq ?_
  refine WP.region ?_
  refine WL.valw (R.as (v := (int 0)) rfl) ?_
  refine WL.valw (R.as (v := (int 0)) rfl) ?_
  refine WL.valw (R.as (v := (str [])) rfl) ?_
  refine WL.valw (R.as (v := (int 0)) rfl) ?_
  refine WL.nil ?_
  refine WP.seq ?_
  refine WP.seq ?_
  refine WP.region ?_
  refine WL.valw (R.mv (v := (str p_line)) rfl) ?_
  refine WL.valw (R.lenS (a := p_line) rfl Tryz.underlying9) ?_
  refine WL.valw (R.gtr rfl rfl) ?_
  refine WL.nil ?_
  rcases condE h with ⟨hc1, h⟩ | ⟨hc1, h⟩
  · refine WP.condT rfl hc1 ?_
    refine WP.seq ?_
    refine WP.region ?_
    refine WL.valw (R.as (v := (int 0)) rfl) ?_
    refine WL.valw (R.as (v := (int 0)) rfl) ?_
    refine WL.valw (R.as (v := (str [])) rfl) ?_
    refine WL.valw (R.as (v := (int 4)) rfl) ?_
    refine WL.nil ?_
    obtain rfl := Option.some.inj h
    refine WP.ret (Out.four rfl S rfl rfl rfl rfl ?_)
    exact rfl
  · refine WP.condF rfl hc1 ?_
    refine WP.skip ?_
    refine WP.seq ?_
    refine WP.region ?_
    refine WL.valw (R.mv (v := (str p_line)) rfl) ?_
    obtain ⟨r2, hr2, h⟩ := bindE h
    refine W.call S rfl (strings_Cut_ok S.holds (hG.post S.post) p_line [32] hr2) ?_
    rintro v3 w4 H5 hle6 S rfl
    refine WL.valw (R.mv (v := (.tuple ⟨[(str r2.1), (str r2.2.1), (boo r2.2.2)]⟩)) rfl) ?_
    refine WL.valw (R.ext rfl rfl) ?_
    refine WL.valw (R.ext rfl rfl) ?_
    refine WL.valw (R.ext rfl rfl) ?_
    refine WL.valw (R.as (v := (str r2.1)) rfl) ?_
    refine WL.valw (R.as (v := (str r2.2.1)) rfl) ?_
    refine WL.valw (R.as (v := (boo r2.2.2)) rfl) ?_
    refine WL.nil ?_
    refine WP.seq ?_
    refine WP.region ?_
    refine WL.valw (R.mv (v := (str r2.2.1)) rfl) ?_
    obtain ⟨r7, hr7, h⟩ := bindE h
    refine W.call S rfl (strings_Cut_ok S.holds (hG.post S.post) r2.2.1 [32] hr7) ?_
    rintro v8 w9 H10 hle11 S rfl
    refine WL.valw (R.mv (v := (.tuple ⟨[(str r7.1), (str r7.2.1), (boo r7.2.2)]⟩)) rfl) ?_
    refine WL.valw (R.ext rfl rfl) ?_
    refine WL.valw (R.ext rfl rfl) ?_
    refine WL.valw (R.ext rfl rfl) ?_
    refine WL.valw (R.as (v := (str r7.1)) rfl) ?_
    refine WL.valw (R.as (v := (str r7.2.1)) rfl) ?_
    refine WL.valw (R.as (v := (boo r7.2.2)) rfl) ?_
    refine WL.nil ?_
    refine WP.seq ?_
    refine WP.region ?_
    refine WL.valw (R.mv (v := (str r7.1)) rfl) ?_
    obtain ⟨r12, hr12, h⟩ := bindE h
    refine W.call S rfl (startline_status_ok S.holds (hG.post S.post) r7.1 hr12) ?_
    rintro v13 w14 H15 hle16 S rfl
    refine WL.valw (R.mv (v := (.tuple ⟨[(int r12.1), (boo r12.2)]⟩)) rfl) ?_
    refine WL.valw (R.ext rfl rfl) ?_
    refine WL.valw (R.ext rfl rfl) ?_
    refine WL.valw (R.as (v := (int r12.1)) rfl) ?_
    refine WL.valw (R.as (v := (boo r12.2)) rfl) ?_
    refine WL.nil ?_
    refine WP.seq ?_
    refine WP.seq ?_
    refine WP.region ?_
    refine WL.valw (R.mv (v := (boo r7.2.2)) rfl) ?_
    refine WL.valw (R.not rfl) ?_
    refine WL.valw (R.mv (v := (boo (!r7.2.2))) rfl) ?_
    refine WL.grp 3 [39, 40] 41 (boo ((!r7.2.2) || (!r12.2))) ?_ ?_
    · rcases boolE (!r7.2.2) with hb17 | hb17
      · refine WL.gno rfl rfl hb17 ?_
        refine WL.gno rfl rfl hb17 ?_
        refine WL.valw (R.pickT rfl hb17 rfl) ?_
        exact WL.nil ⟨(orT hb17), (by repeat (first | refine agree_upd rfl ?_ | refine agree_upds' rfl ?_ | exact agree_refl)), rfl⟩
      · refine WL.gyes rfl rfl hb17 ?_
        refine WL.valw (R.mv (v := (boo r12.2)) rfl) ?_
        refine WL.gyes rfl rfl hb17 ?_
        refine WL.valw (R.not rfl) ?_
        refine WL.valw (R.pickF rfl hb17 rfl) ?_
        exact WL.nil ⟨(orF hb17), (by repeat (first | refine agree_upd rfl ?_ | refine agree_upds' rfl ?_ | exact agree_refl)), rfl⟩
    · intro us
      refine WL.valw (R.mv (v := (boo ((!r7.2.2) || (!r12.2)))) rfl) ?_
      obtain ⟨b26, hg20, h⟩ := bindE h
      refine WL.grpw 4 [43, 44, 45] 46 (boo b26) (fun w => ∃ H' : Hp, H15.le H' ∧ St w0 H0 w H' []) ?_ ?_
      · rcases boolE ((!r7.2.2) || (!r12.2)) with hb19 | hb19
        · replace hg20 := condT hg20 hb19
          refine WL.gno rfl rfl hb19 ?_
          refine WL.gno rfl rfl hb19 ?_
          refine WL.gno rfl rfl hb19 ?_
          refine WL.valw (R.pickT rfl hb19 rfl) ?_
          exact WL.nil ⟨(congrArg boo (Option.some.inj hg20)), (by repeat (first | refine agree_upd rfl ?_ | refine agree_upds' rfl ?_ | exact agree_refl)), ⟨H15, (Hp.le.refl _), S⟩⟩
        · replace hg20 := condF hg20 hb19
          refine WL.gyes rfl rfl hb19 ?_
          refine WL.valw (R.mv (v := (str r7.2.1)) rfl) ?_
          refine WL.gyes rfl rfl hb19 ?_
          obtain ⟨r21, hr21, hg20⟩ := bindE hg20
          refine W.call S rfl (ascii_Text_ok S.holds (hG.post S.post) r7.2.1 hr21) ?_
          rintro v22 w23 H24 hle25 S rfl
          refine WL.gyes rfl rfl hb19 ?_
          refine WL.valw (R.not rfl) ?_
          refine WL.valw (R.pickF rfl hb19 rfl) ?_
          exact WL.nil ⟨(congrArg boo (Option.some.inj hg20)), (by repeat (first | refine agree_upd rfl ?_ | refine agree_upds' rfl ?_ | exact agree_refl)), ⟨H24, hle25, S⟩⟩
      · intro us w28 ⟨H27, hle29, S⟩
        refine WL.nil ?_
        rcases condE h with ⟨hc30, h⟩ | ⟨hc30, h⟩
        · refine WP.condT rfl hc30 ?_
          refine WP.seq ?_
          refine WP.region ?_
          refine WL.valw (R.as (v := (int 0)) rfl) ?_
          refine WL.valw (R.as (v := (int 0)) rfl) ?_
          refine WL.valw (R.as (v := (str [])) rfl) ?_
          refine WL.valw (R.as (v := (int 1)) rfl) ?_
          refine WL.nil ?_
          obtain rfl := Option.some.inj h
          refine WP.ret (Out.four rfl S rfl rfl rfl rfl ?_)
          exact rfl
        · refine WP.condF rfl hc30 ?_
          refine WP.skip ?_
          refine WP.seq ?_
          refine WP.region ?_
          refine WL.valw (R.mv (v := (str r2.1)) rfl) ?_
          obtain ⟨r31, hr31, h⟩ := bindE h
          refine W.call S rfl (startline_version_ok S.holds (hG.post S.post) r2.1 hr31) ?_
          rintro v32 w33 H34 hle35 S rfl
          refine WL.valw (R.mv (v := (.tuple ⟨[(int r31.1), .nilIface]⟩)) rfl) ?_
          refine WL.valw (R.ext rfl rfl) ?_
          refine WL.valw (R.ext rfl rfl) ?_
          refine WL.valw (R.as (v := (int r31.1)) rfl) ?_
          refine WL.valw (R.as (v := .nilIface) rfl) ?_
          refine WL.nil ?_
          refine WP.seq ?_
          refine WP.seq ?_
          refine WP.region ?_
          refine WL.valw (R.mv (v := .nilIface) rfl) ?_
          refine WL.valw (R.neqNI rfl rfl Tryz.underlying135) ?_
          refine WL.nil ?_
          refine WP.condF (b := false) rfl rfl ?_
          refine WP.skip ?_
          refine WP.seq ?_
          refine WP.region ?_
          refine WL.valw (R.mv (v := (int r31.1)) rfl) ?_
          refine WL.valw (R.mv (v := (int r12.1)) rfl) ?_
          refine WL.valw (R.mv (v := (str r7.2.1)) rfl) ?_
          refine WL.valw (R.as (v := (int r31.1)) rfl) ?_
          refine WL.valw (R.as (v := (int r12.1)) rfl) ?_
          refine WL.valw (R.as (v := (str r7.2.1)) rfl) ?_
          refine WL.valw (R.as (v := (int 0)) rfl) ?_
          refine WL.nil ?_
          obtain rfl := Option.some.inj h
          refine WP.ret (Out.four rfl S rfl rfl rfl rfl ?_)
          exact rfl
set_option maxRecDepth 10000 in
set_option maxHeartbeats 4000000 in
theorem startline_FormatStatus_ok {w0 : World} {H0 : Hp} (hw : Holds w0 H0) (hG : Tryz.Gl w0) (p_minor : Int) (p_status : Int) (p_reason : Str) {r : Str} (h : startline_FormatStatus p_minor p_status p_reason = some r) :
    Con Tryz.prog 67 [(int p_minor), (int p_status), (str p_reason)] w0 H0 (fun H' v => v = (str r)) := by
  refine Con.mk (N := 47) Tryz.func67 rfl rfl (by kernel_rfl) rfl ?_
  have S := St.start hw
  refine WP.seq ?_
  refine WP.region ?_
  refine WL.valw (R.as (v := (str [])) rfl) ?_
  refine WL.nil ?_
  refine WP.seq ?_
  refine WP.region ?_
  refine WL.valw (R.mv (v := (int p_minor)) rfl) ?_
  obtain ⟨r1, hr1, h⟩ := bindE h
  refine W.call S rfl (strconv_Itoa_ok S.holds (hG.post S.post) p_minor hr1) ?_
  rintro v2 w3 H4 hle5 S rfl
  obtain ⟨s6, hs6, h⟩ := bindE h
  refine WL.valw (R.cat (a := [72, 84, 84, 80, 47, 49, 46]) (b := r1) rfl rfl hs6) ?_
  obtain ⟨s7, hs7, h⟩ := bindE h
  refine WL.valw (R.cat (a := s6) (b := [32]) rfl rfl hs7) ?_
  refine WL.valw (R.mv (v := (int p_status)) rfl) ?_
  obtain ⟨r8, hr8, h⟩ := bindE h
  refine W.call S rfl (strconv_Itoa_ok S.holds (hG.post S.post) p_status hr8) ?_
  rintro v9 w10 H11 hle12 S rfl
  obtain ⟨s13, hs13, h⟩ := bindE h
  refine WL.valw (R.cat (a := s7) (b := r8) rfl rfl hs13) ?_
  obtain ⟨s14, hs14, h⟩ := bindE h
  refine WL.valw (R.cat (a := s13) (b := [32]) rfl rfl hs14) ?_
  refine WL.valw (R.mv (v := (str p_reason)) rfl) ?_
  obtain ⟨s15, hs15, h⟩ := bindE h
  refine WL.valw (R.cat (a := s14) (b := p_reason) rfl rfl hs15) ?_
  refine WL.valw (R.as (v := (str s15)) rfl) ?_
  refine WL.nil ?_
  refine WP.seq ?_
  refine WP.seq ?_
  refine WP.region ?_
  refine WL.valw (R.mv (v := (str s15)) rfl) ?_
  obtain ⟨r16, hr16, h⟩ := bindE h
  refine W.call S rfl (startline_ParseStatus_ok S.holds (hG.post S.post) s15 hr16) ?_
  rintro v17 w18 H19 hle20 S rfl
  refine WL.valw (R.mv (v := (.tuple ⟨[(int r16.1), (int r16.2.1), (str r16.2.2.1), (int r16.2.2.2)]⟩)) rfl) ?_
  refine WL.valw (R.ext rfl rfl) ?_
  refine WL.valw (R.ext rfl rfl) ?_
  refine WL.valw (R.ext rfl rfl) ?_
  refine WL.valw (R.ext rfl rfl) ?_
  refine WL.valw (R.as (v := (int r16.1)) rfl) ?_
  refine WL.valw (R.as (v := (int r16.2.1)) rfl) ?_
  refine WL.valw (R.as (v := (str r16.2.2.1)) rfl) ?_
  refine WL.valw (R.as (v := (int r16.2.2.2)) rfl) ?_
  refine WL.nil ?_
  refine WP.seq ?_
  refine WP.region ?_
  refine WL.valw (R.mv (v := (int r16.2.2.2)) rfl) ?_
  refine WL.valw (R.neq rfl rfl) ?_
  refine WL.valw (R.mv (v := (boo (r16.2.2.2 != 0))) rfl) ?_
  refine WL.grp 4 [32, 33, 34] 35 (boo ((r16.2.2.2 != 0) || (r16.1 != p_minor))) ?_ ?_
  · rcases boolE (r16.2.2.2 != 0) with hb21 | hb21
    · refine WL.gno rfl rfl hb21 ?_
      refine WL.gno rfl rfl hb21 ?_
      refine WL.gno rfl rfl hb21 ?_
      refine WL.valw (R.pickT rfl hb21 rfl) ?_
      exact WL.nil ⟨(orT hb21), (by repeat (first | refine agree_upd rfl ?_ | refine agree_upds' rfl ?_ | exact agree_refl)), rfl⟩
    · refine WL.gyes rfl rfl hb21 ?_
      refine WL.valw (R.mv (v := (int r16.1)) rfl) ?_
      refine WL.gyes rfl rfl hb21 ?_
      refine WL.valw (R.mv (v := (int p_minor)) rfl) ?_
      refine WL.gyes rfl rfl hb21 ?_
      refine WL.valw (R.neq rfl rfl) ?_
      refine WL.valw (R.pickF rfl hb21 rfl) ?_
      exact WL.nil ⟨(orF hb21), (by repeat (first | refine agree_upd rfl ?_ | refine agree_upds' rfl ?_ | exact agree_refl)), rfl⟩
  · intro us
    refine WL.valw (R.mv (v := (boo ((r16.2.2.2 != 0) || (r16.1 != p_minor)))) rfl) ?_
    refine WL.grp 4 [37, 38, 39] 40 (boo (((r16.2.2.2 != 0) || (r16.1 != p_minor)) || (r16.2.1 != p_status))) ?_ ?_
    · rcases boolE ((r16.2.2.2 != 0) || (r16.1 != p_minor)) with hb23 | hb23
      · refine WL.gno rfl rfl hb23 ?_
        refine WL.gno rfl rfl hb23 ?_
        refine WL.gno rfl rfl hb23 ?_
        refine WL.valw (R.pickT rfl hb23 rfl) ?_
        exact WL.nil ⟨(orT hb23), (by repeat (first | refine agree_upd rfl ?_ | refine agree_upds' rfl ?_ | exact agree_refl)), rfl⟩
      · refine WL.gyes rfl rfl hb23 ?_
        refine WL.valw (R.mv (v := (int r16.2.1)) rfl) ?_
        refine WL.gyes rfl rfl hb23 ?_
        refine WL.valw (R.mv (v := (int p_status)) rfl) ?_
        refine WL.gyes rfl rfl hb23 ?_
        refine WL.valw (R.neq rfl rfl) ?_
        refine WL.valw (R.pickF rfl hb23 rfl) ?_
        exact WL.nil ⟨(orF hb23), (by repeat (first | refine agree_upd rfl ?_ | refine agree_upds' rfl ?_ | exact agree_refl)), rfl⟩
    · intro us
      refine WL.valw (R.mv (v := (boo (((r16.2.2.2 != 0) || (r16.1 != p_minor)) || (r16.2.1 != p_status)))) rfl) ?_
      refine WL.grp 4 [42, 43, 44] 45 (boo ((((r16.2.2.2 != 0) || (r16.1 != p_minor)) || (r16.2.1 != p_status)) || (r16.2.2.1 != p_reason))) ?_ ?_
      · rcases boolE (((r16.2.2.2 != 0) || (r16.1 != p_minor)) || (r16.2.1 != p_status)) with hb25 | hb25
        · refine WL.gno rfl rfl hb25 ?_
          refine WL.gno rfl rfl hb25 ?_
          refine WL.gno rfl rfl hb25 ?_
          refine WL.valw (R.pickT rfl hb25 rfl) ?_
          exact WL.nil ⟨(orT hb25), (by repeat (first | refine agree_upd rfl ?_ | refine agree_upds' rfl ?_ | exact agree_refl)), rfl⟩
        · refine WL.gyes rfl rfl hb25 ?_
          refine WL.valw (R.mv (v := (str r16.2.2.1)) rfl) ?_
          refine WL.gyes rfl rfl hb25 ?_
          refine WL.valw (R.mv (v := (str p_reason)) rfl) ?_
          refine WL.gyes rfl rfl hb25 ?_
          refine WL.valw (R.neqS (a := r16.2.2.1) (b := p_reason) rfl rfl) ?_
          refine WL.valw (R.pickF rfl hb25 rfl) ?_
          exact WL.nil ⟨(orF hb25), (by repeat (first | refine agree_upd rfl ?_ | refine agree_upds' rfl ?_ | exact agree_refl)), rfl⟩
      · intro us
        refine WL.nil ?_
        rcases condE h with ⟨hc27, h⟩ | ⟨hc27, h⟩
        · refine WP.condT rfl hc27 ?_
          refine WP.seq ?_
          refine WP.region ?_
          refine WL.valw (R.as (v := (str [])) rfl) ?_
          refine WL.nil ?_
          obtain rfl := Option.some.inj h
          refine WP.ret (Out.one rfl S rfl ?_)
          exact rfl
        · refine WP.condF rfl hc27 ?_
          refine WP.skip ?_
          refine WP.seq ?_
          refine WP.region ?_
          refine WL.valw (R.mv (v := (str s15)) rfl) ?_
          refine WL.valw (R.as (v := (str s15)) rfl) ?_
          refine WL.nil ?_
          obtain rfl := Option.some.inj h
          refine WP.ret (Out.one rfl S rfl ?_)
          exact rfl
set_option maxRecDepth 10000 in
set_option maxHeartbeats 4000000 in
theorem message_Bodiless_ok {w0 : World} {H0 : Hp} (hw : Holds w0 H0) (hG : Tryz.Gl w0) (p_status : Int) (p_method : Str) {r : Bool} (h : message_Bodiless p_status p_method = some r) :
    Con Tryz.prog 68 [(int p_status), (str p_method)] w0 H0 (fun H' v => v = (boo r)) := by
  refine Con.mk (N := 23) Tryz.func68 rfl rfl (by kernel_rfl) rfl ?_
  have S := St.start hw
  refine WP.seq ?_
  refine WP.region ?_
  refine WL.valw (R.as (v := (boo false)) rfl) ?_
  refine WL.nil ?_
  refine WP.seq ?_
  refine WP.region ?_
  refine WL.valw (R.mv (v := (int p_status)) rfl) ?_
  refine WL.valw (R.geq rfl rfl) ?_
  refine WL.valw (R.mv (v := (boo (decide (100 ≤ p_status)))) rfl) ?_
  refine WL.grp 3 [8, 9] 10 (boo ((decide (100 ≤ p_status)) && (decide (p_status ≤ 199)))) ?_ ?_
  · rcases boolE (decide (100 ≤ p_status)) with hb1 | hb1
    · refine WL.gyes rfl rfl hb1 ?_
      refine WL.valw (R.mv (v := (int p_status)) rfl) ?_
      refine WL.gyes rfl rfl hb1 ?_
      refine WL.valw (R.leq rfl rfl) ?_
      refine WL.valw (R.pickT rfl hb1 rfl) ?_
      exact WL.nil ⟨(andT hb1), (by repeat (first | refine agree_upd rfl ?_ | refine agree_upds' rfl ?_ | exact agree_refl)), rfl⟩
    · refine WL.gno rfl rfl hb1 ?_
      refine WL.gno rfl rfl hb1 ?_
      refine WL.valw (R.pickF rfl hb1 rfl) ?_
      exact WL.nil ⟨(andF hb1), (by repeat (first | refine agree_upd rfl ?_ | refine agree_upds' rfl ?_ | exact agree_refl)), rfl⟩
  · intro us
    refine WL.valw (R.mv (v := (boo ((decide (100 ≤ p_status)) && (decide (p_status ≤ 199))))) rfl) ?_
    refine WL.grp 3 [12, 13] 14 (boo (((decide (100 ≤ p_status)) && (decide (p_status ≤ 199))) || (p_status == 204))) ?_ ?_
    · rcases boolE ((decide (100 ≤ p_status)) && (decide (p_status ≤ 199))) with hb3 | hb3
      · refine WL.gno rfl rfl hb3 ?_
        refine WL.gno rfl rfl hb3 ?_
        refine WL.valw (R.pickT rfl hb3 rfl) ?_
        exact WL.nil ⟨(orT hb3), (by repeat (first | refine agree_upd rfl ?_ | refine agree_upds' rfl ?_ | exact agree_refl)), rfl⟩
      · refine WL.gyes rfl rfl hb3 ?_
        refine WL.valw (R.mv (v := (int p_status)) rfl) ?_
        refine WL.gyes rfl rfl hb3 ?_
        refine WL.valw (R.eql rfl rfl) ?_
        refine WL.valw (R.pickF rfl hb3 rfl) ?_
        exact WL.nil ⟨(orF hb3), (by repeat (first | refine agree_upd rfl ?_ | refine agree_upds' rfl ?_ | exact agree_refl)), rfl⟩
    · intro us
      refine WL.valw (R.mv (v := (boo (((decide (100 ≤ p_status)) && (decide (p_status ≤ 199))) || (p_status == 204)))) rfl) ?_
      refine WL.grp 3 [16, 17] 18 (boo ((((decide (100 ≤ p_status)) && (decide (p_status ≤ 199))) || (p_status == 204)) || (p_status == 304))) ?_ ?_
      · rcases boolE (((decide (100 ≤ p_status)) && (decide (p_status ≤ 199))) || (p_status == 204)) with hb5 | hb5
        · refine WL.gno rfl rfl hb5 ?_
          refine WL.gno rfl rfl hb5 ?_
          refine WL.valw (R.pickT rfl hb5 rfl) ?_
          exact WL.nil ⟨(orT hb5), (by repeat (first | refine agree_upd rfl ?_ | refine agree_upds' rfl ?_ | exact agree_refl)), rfl⟩
        · refine WL.gyes rfl rfl hb5 ?_
          refine WL.valw (R.mv (v := (int p_status)) rfl) ?_
          refine WL.gyes rfl rfl hb5 ?_
          refine WL.valw (R.eql rfl rfl) ?_
          refine WL.valw (R.pickF rfl hb5 rfl) ?_
          exact WL.nil ⟨(orF hb5), (by repeat (first | refine agree_upd rfl ?_ | refine agree_upds' rfl ?_ | exact agree_refl)), rfl⟩
      · intro us
        refine WL.valw (R.mv (v := (boo ((((decide (100 ≤ p_status)) && (decide (p_status ≤ 199))) || (p_status == 204)) || (p_status == 304)))) rfl) ?_
        refine WL.grp 3 [20, 21] 22 (boo (((((decide (100 ≤ p_status)) && (decide (p_status ≤ 199))) || (p_status == 204)) || (p_status == 304)) || (p_method == [72, 69, 65, 68]))) ?_ ?_
        · rcases boolE ((((decide (100 ≤ p_status)) && (decide (p_status ≤ 199))) || (p_status == 204)) || (p_status == 304)) with hb7 | hb7
          · refine WL.gno rfl rfl hb7 ?_
            refine WL.gno rfl rfl hb7 ?_
            refine WL.valw (R.pickT rfl hb7 rfl) ?_
            exact WL.nil ⟨(orT hb7), (by repeat (first | refine agree_upd rfl ?_ | refine agree_upds' rfl ?_ | exact agree_refl)), rfl⟩
          · refine WL.gyes rfl rfl hb7 ?_
            refine WL.valw (R.mv (v := (str p_method)) rfl) ?_
            refine WL.gyes rfl rfl hb7 ?_
            refine WL.valw (R.eqlS (a := p_method) (b := [72, 69, 65, 68]) rfl rfl) ?_
            refine WL.valw (R.pickF rfl hb7 rfl) ?_
            exact WL.nil ⟨(orF hb7), (by repeat (first | refine agree_upd rfl ?_ | refine agree_upds' rfl ?_ | exact agree_refl)), rfl⟩
        · intro us
          refine WL.valw (R.as (v := (boo (((((decide (100 ≤ p_status)) && (decide (p_status ≤ 199))) || (p_status == 204)) || (p_status == 304)) || (p_method == [72, 69, 65, 68])))) rfl) ?_
          refine WL.nil ?_
          obtain rfl := Option.some.inj h
          refine WP.ret (Out.one rfl S rfl ?_)
          exact rfl
set_option maxRecDepth 10000 in
set_option maxHeartbeats 4000000 in
theorem ascii_Fold_ok {w0 : World} {H0 : Hp} (hw : Holds w0 H0) (hG : Tryz.Gl w0) (p_a : Str) (p_b : Str) {r : Bool} (h : ascii_Fold p_a p_b = some r) :
    Con Tryz.prog 118 [(str p_a), (str p_b)] w0 H0 (fun H' v => v = (boo r)) := by
  refine Con.mk (N := 17) Tryz.func118 rfl rfl (by kernel_rfl) rfl ?_
  have S := St.start hw
  refine WP.seq ?_
  refine WP.region ?_
  refine WL.valw (R.as (v := (boo false)) rfl) ?_
  refine WL.nil ?_
  refine WP.seq ?_
  refine WP.region ?_
  refine WL.valw (R.mv (v := (str p_a)) rfl) ?_
  refine WL.valw (R.lenS (a := p_a) rfl Tryz.underlying9) ?_
  refine WL.valw (R.mv (v := (str p_b)) rfl) ?_
  refine WL.valw (R.lenS (a := p_b) rfl Tryz.underlying9) ?_
  refine WL.valw (R.eql rfl rfl) ?_
  refine WL.valw (R.mv (v := (boo ((p_a.length : Int) == (p_b.length : Int)))) rfl) ?_
  obtain ⟨b13, hg2, h⟩ := bindE h
  refine WL.grpw 6 [11, 12, 13, 14, 15] 16 (boo b13) (fun w => ∃ H' : Hp, H0.le H' ∧ St w0 H0 w H' []) ?_ ?_
  · rcases boolE ((p_a.length : Int) == (p_b.length : Int)) with hb1 | hb1
    · replace hg2 := condT hg2 hb1
      refine WL.gyes rfl rfl hb1 ?_
      refine WL.valw (R.mv (v := (str p_a)) rfl) ?_
      refine WL.gyes rfl rfl hb1 ?_
      obtain ⟨r3, hr3, hg2⟩ := bindE hg2
      refine W.call S rfl (ascii_Lower_ok S.holds (hG.post S.post) p_a hr3) ?_
      rintro v4 w5 H6 hle7 S rfl
      refine WL.gyes rfl rfl hb1 ?_
      refine WL.valw (R.mv (v := (str p_b)) rfl) ?_
      refine WL.gyes rfl rfl hb1 ?_
      obtain ⟨r8, hr8, hg2⟩ := bindE hg2
      refine W.call S rfl (ascii_Lower_ok S.holds (hG.post S.post) p_b hr8) ?_
      rintro v9 w10 H11 hle12 S rfl
      refine WL.gyes rfl rfl hb1 ?_
      refine WL.valw (R.eqlS (a := r3) (b := r8) rfl rfl) ?_
      refine WL.valw (R.pickT rfl hb1 rfl) ?_
      exact WL.nil ⟨(congrArg boo (Option.some.inj hg2)), (by repeat (first | refine agree_upd rfl ?_ | refine agree_upds' rfl ?_ | exact agree_refl)), ⟨H11, (hle7.trans hle12), S⟩⟩
    · replace hg2 := condF hg2 hb1
      refine WL.gno rfl rfl hb1 ?_
      refine WL.gno rfl rfl hb1 ?_
      refine WL.gno rfl rfl hb1 ?_
      refine WL.gno rfl rfl hb1 ?_
      refine WL.gno rfl rfl hb1 ?_
      refine WL.valw (R.pickF rfl hb1 rfl) ?_
      exact WL.nil ⟨(congrArg boo (Option.some.inj hg2)), (by repeat (first | refine agree_upd rfl ?_ | refine agree_upds' rfl ?_ | exact agree_refl)), ⟨H0, (Hp.le.refl _), S⟩⟩
  · intro us w15 ⟨H14, hle16, S⟩
    refine WL.valw (R.as (v := (boo b13)) rfl) ?_
    refine WL.nil ?_
    obtain rfl := Option.some.inj h
    refine WP.ret (Out.one rfl S rfl ?_)
    exact rfl
set_option maxRecDepth 10000 in
set_option maxHeartbeats 4000000 in
theorem ascii_part_ok {w0 : World} {H0 : Hp} (hw : Holds w0 H0) (hG : Tryz.Gl w0) (p_c : UInt8) {r : Bool} (h : ascii_part p_c = some r) :
    Con Tryz.prog 134 [(byt p_c)] w0 H0 (fun H' v => v = (boo r)) := by
  refine Con.mk (N := 42) Tryz.func134 rfl rfl (by kernel_rfl) rfl ?_
  have S := St.start hw
  refine WP.seq ?_
  refine WP.region ?_
  refine WL.valw (R.as (v := (boo false)) rfl) ?_
  refine WL.nil ?_
  refine WP.seq ?_
  refine WP.seq ?_
  refine WP.region ?_
  refine WL.valw (R.mv (v := (byt p_c)) rfl) ?_
  refine WL.nil ?_
  obtain ⟨j4, hj3, h⟩ := bindE h
  refine WP.cut (fun f w => match j4 with | .inl _ => ∃ (H1 : Hp), f 0 = (byt p_c) ∧ St w0 H0 w H1 [] | .inr _ => False) ?_ ?_
  · refine WP.block ?_
    refine WP.seq ?_
    refine WP.seq ?_
    refine WP.region ?_
    refine WL.valw (R.eql8 (a := p_c) (b := 33) rfl rfl) ?_
    refine WL.valw (R.as (v := (boo (p_c == 33))) rfl) ?_
    refine WL.nil ?_
    obtain ⟨y_7, hj9, hj3⟩ := bindE hj3
    refine WP.cut (fun f w => ∃ (H5 : Hp), f 0 = (byt p_c) ∧ f 4 = (boo y_7) ∧ St w0 H0 w H5 []) ?_ ?_
    · rcases condE hj9 with ⟨hc11, hj9⟩ | ⟨hc11, hj9⟩
      · refine WP.condT rfl hc11 ?_
        refine WP.skip ?_
        obtain rfl := Option.some.inj hj9
        exact ⟨H0, rfl, rfl, S⟩
      · refine WP.condF rfl hc11 ?_
        refine WP.seq ?_
        refine WP.region ?_
        refine WL.valw (R.eql8 (a := p_c) (b := 35) rfl rfl) ?_
        refine WL.valw (R.as (v := (boo (p_c == 35))) rfl) ?_
        refine WL.nil ?_
        rcases condE hj9 with ⟨hc12, hj9⟩ | ⟨hc12, hj9⟩
        · refine WP.condT rfl hc12 ?_
          refine WP.skip ?_
          obtain rfl := Option.some.inj hj9
          exact ⟨H0, rfl, rfl, S⟩
        · refine WP.condF rfl hc12 ?_
          refine WP.seq ?_
          refine WP.region ?_
          refine WL.valw (R.eql8 (a := p_c) (b := 36) rfl rfl) ?_
          refine WL.valw (R.as (v := (boo (p_c == 36))) rfl) ?_
          refine WL.nil ?_
          rcases condE hj9 with ⟨hc13, hj9⟩ | ⟨hc13, hj9⟩
          · refine WP.condT rfl hc13 ?_
            refine WP.skip ?_
            obtain rfl := Option.some.inj hj9
            exact ⟨H0, rfl, rfl, S⟩
          · refine WP.condF rfl hc13 ?_
            refine WP.seq ?_
            refine WP.region ?_
            refine WL.valw (R.eql8 (a := p_c) (b := 37) rfl rfl) ?_
            refine WL.valw (R.as (v := (boo (p_c == 37))) rfl) ?_
            refine WL.nil ?_
            rcases condE hj9 with ⟨hc14, hj9⟩ | ⟨hc14, hj9⟩
            · refine WP.condT rfl hc14 ?_
              refine WP.skip ?_
              obtain rfl := Option.some.inj hj9
              exact ⟨H0, rfl, rfl, S⟩
            · refine WP.condF rfl hc14 ?_
              refine WP.seq ?_
              refine WP.region ?_
              refine WL.valw (R.eql8 (a := p_c) (b := 38) rfl rfl) ?_
              refine WL.valw (R.as (v := (boo (p_c == 38))) rfl) ?_
              refine WL.nil ?_
              rcases condE hj9 with ⟨hc15, hj9⟩ | ⟨hc15, hj9⟩
              · refine WP.condT rfl hc15 ?_
                refine WP.skip ?_
                obtain rfl := Option.some.inj hj9
                exact ⟨H0, rfl, rfl, S⟩
              · refine WP.condF rfl hc15 ?_
                refine WP.seq ?_
                refine WP.region ?_
                refine WL.valw (R.eql8 (a := p_c) (b := 39) rfl rfl) ?_
                refine WL.valw (R.as (v := (boo (p_c == 39))) rfl) ?_
                refine WL.nil ?_
                rcases condE hj9 with ⟨hc16, hj9⟩ | ⟨hc16, hj9⟩
                · refine WP.condT rfl hc16 ?_
                  refine WP.skip ?_
                  obtain rfl := Option.some.inj hj9
                  exact ⟨H0, rfl, rfl, S⟩
                · refine WP.condF rfl hc16 ?_
                  refine WP.seq ?_
                  refine WP.region ?_
                  refine WL.valw (R.eql8 (a := p_c) (b := 42) rfl rfl) ?_
                  refine WL.valw (R.as (v := (boo (p_c == 42))) rfl) ?_
                  refine WL.nil ?_
                  rcases condE hj9 with ⟨hc17, hj9⟩ | ⟨hc17, hj9⟩
                  · refine WP.condT rfl hc17 ?_
                    refine WP.skip ?_
                    obtain rfl := Option.some.inj hj9
                    exact ⟨H0, rfl, rfl, S⟩
                  · refine WP.condF rfl hc17 ?_
                    refine WP.seq ?_
                    refine WP.region ?_
                    refine WL.valw (R.eql8 (a := p_c) (b := 43) rfl rfl) ?_
                    refine WL.valw (R.as (v := (boo (p_c == 43))) rfl) ?_
                    refine WL.nil ?_
                    rcases condE hj9 with ⟨hc18, hj9⟩ | ⟨hc18, hj9⟩
                    · refine WP.condT rfl hc18 ?_
                      refine WP.skip ?_
                      obtain rfl := Option.some.inj hj9
                      exact ⟨H0, rfl, rfl, S⟩
                    · refine WP.condF rfl hc18 ?_
                      refine WP.seq ?_
                      refine WP.region ?_
                      refine WL.valw (R.eql8 (a := p_c) (b := 45) rfl rfl) ?_
                      refine WL.valw (R.as (v := (boo (p_c == 45))) rfl) ?_
                      refine WL.nil ?_
                      rcases condE hj9 with ⟨hc19, hj9⟩ | ⟨hc19, hj9⟩
                      · refine WP.condT rfl hc19 ?_
                        refine WP.skip ?_
                        obtain rfl := Option.some.inj hj9
                        exact ⟨H0, rfl, rfl, S⟩
                      · refine WP.condF rfl hc19 ?_
                        refine WP.seq ?_
                        refine WP.region ?_
                        refine WL.valw (R.eql8 (a := p_c) (b := 46) rfl rfl) ?_
                        refine WL.valw (R.as (v := (boo (p_c == 46))) rfl) ?_
                        refine WL.nil ?_
                        rcases condE hj9 with ⟨hc20, hj9⟩ | ⟨hc20, hj9⟩
                        · refine WP.condT rfl hc20 ?_
                          refine WP.skip ?_
                          obtain rfl := Option.some.inj hj9
                          exact ⟨H0, rfl, rfl, S⟩
                        · refine WP.condF rfl hc20 ?_
                          refine WP.seq ?_
                          refine WP.region ?_
                          refine WL.valw (R.eql8 (a := p_c) (b := 94) rfl rfl) ?_
                          refine WL.valw (R.as (v := (boo (p_c == 94))) rfl) ?_
                          refine WL.nil ?_
                          rcases condE hj9 with ⟨hc21, hj9⟩ | ⟨hc21, hj9⟩
                          · refine WP.condT rfl hc21 ?_
                            refine WP.skip ?_
                            obtain rfl := Option.some.inj hj9
                            exact ⟨H0, rfl, rfl, S⟩
                          · refine WP.condF rfl hc21 ?_
                            refine WP.seq ?_
                            refine WP.region ?_
                            refine WL.valw (R.eql8 (a := p_c) (b := 95) rfl rfl) ?_
                            refine WL.valw (R.as (v := (boo (p_c == 95))) rfl) ?_
                            refine WL.nil ?_
                            rcases condE hj9 with ⟨hc22, hj9⟩ | ⟨hc22, hj9⟩
                            · refine WP.condT rfl hc22 ?_
                              refine WP.skip ?_
                              obtain rfl := Option.some.inj hj9
                              exact ⟨H0, rfl, rfl, S⟩
                            · refine WP.condF rfl hc22 ?_
                              refine WP.seq ?_
                              refine WP.region ?_
                              refine WL.valw (R.eql8 (a := p_c) (b := 96) rfl rfl) ?_
                              refine WL.valw (R.as (v := (boo (p_c == 96))) rfl) ?_
                              refine WL.nil ?_
                              rcases condE hj9 with ⟨hc23, hj9⟩ | ⟨hc23, hj9⟩
                              · refine WP.condT rfl hc23 ?_
                                refine WP.skip ?_
                                obtain rfl := Option.some.inj hj9
                                exact ⟨H0, rfl, rfl, S⟩
                              · refine WP.condF rfl hc23 ?_
                                refine WP.seq ?_
                                refine WP.region ?_
                                refine WL.valw (R.eql8 (a := p_c) (b := 124) rfl rfl) ?_
                                refine WL.valw (R.as (v := (boo (p_c == 124))) rfl) ?_
                                refine WL.nil ?_
                                rcases condE hj9 with ⟨hc24, hj9⟩ | ⟨hc24, hj9⟩
                                · refine WP.condT rfl hc24 ?_
                                  refine WP.skip ?_
                                  obtain rfl := Option.some.inj hj9
                                  exact ⟨H0, rfl, rfl, S⟩
                                · refine WP.condF rfl hc24 ?_
                                  refine WP.region ?_
                                  refine WL.valw (R.eql8 (a := p_c) (b := 126) rfl rfl) ?_
                                  refine WL.valw (R.as (v := (boo (p_c == 126))) rfl) ?_
                                  refine WL.nil ?_
                                  obtain rfl := Option.some.inj hj9
                                  exact ⟨H0, rfl, rfl, S⟩
    · rintro f w ⟨H5, h6, h8, S⟩
      rcases condE hj3 with ⟨hc25, hj3⟩ | ⟨hc25, hj3⟩
      · refine WP.condT h8 hc25 ?_
        refine WP.seq ?_
        refine WP.region ?_
        refine WL.valw (R.as (v := (boo true)) rfl) ?_
        refine WL.nil ?_
        obtain rfl := Option.some.inj hj3
        obtain rfl := Option.some.inj h
        refine WP.ret (Out.one rfl S rfl ?_)
        exact rfl
      · refine WP.condF h8 hc25 ?_
        refine WP.skip ?_
        obtain rfl := Option.some.inj hj3
        exact ⟨H5, h6, S⟩
  · intro f w hM
    rcases j4 with _ | e
    · obtain ⟨H1, h2, S⟩ := hM
      refine WP.seq ?_
      refine WP.region ?_
      refine WL.valw (R.mv (v := (byt p_c)) h2) ?_
      refine WL.valw (R.geq8 (a := p_c) (b := 48) rfl rfl) ?_
      refine WL.valw (R.mv (v := (boo (decide (48 ≤ p_c)))) rfl) ?_
      refine WL.grp 3 [23, 24] 25 (boo ((decide (48 ≤ p_c)) && (decide (p_c ≤ 57)))) ?_ ?_
      · rcases boolE (decide (48 ≤ p_c)) with hb26 | hb26
        · refine WL.gyes rfl rfl hb26 ?_
          refine WL.valw (R.mv (v := (byt p_c)) h2) ?_
          refine WL.gyes rfl rfl hb26 ?_
          refine WL.valw (R.leq8 (a := p_c) (b := 57) rfl rfl) ?_
          refine WL.valw (R.pickT rfl hb26 rfl) ?_
          exact WL.nil ⟨(andT hb26), (by repeat (first | refine agree_upd rfl ?_ | refine agree_upds' rfl ?_ | exact agree_refl)), rfl⟩
        · refine WL.gno rfl rfl hb26 ?_
          refine WL.gno rfl rfl hb26 ?_
          refine WL.valw (R.pickF rfl hb26 rfl) ?_
          exact WL.nil ⟨(andF hb26), (by repeat (first | refine agree_upd rfl ?_ | refine agree_upds' rfl ?_ | exact agree_refl)), rfl⟩
      · intro us
        refine WL.valw (R.mv (v := (boo ((decide (48 ≤ p_c)) && (decide (p_c ≤ 57))))) rfl) ?_
        refine WL.grp 7 [27, 28, 29, 30, 31, 32] 33 (boo (((decide (48 ≤ p_c)) && (decide (p_c ≤ 57))) || ((decide (65 ≤ p_c)) && (decide (p_c ≤ 90))))) ?_ ?_
        · rcases boolE ((decide (48 ≤ p_c)) && (decide (p_c ≤ 57))) with hb28 | hb28
          · refine WL.gno rfl rfl hb28 ?_
            refine WL.gno rfl rfl hb28 ?_
            refine WL.gno rfl rfl hb28 ?_
            refine WL.gund rfl rfl ?_
            refine WL.gund rfl rfl ?_
            refine WL.gno rfl rfl hb28 ?_
            refine WL.valw (R.pickT rfl hb28 rfl) ?_
            exact WL.nil ⟨(orT hb28), (by repeat (first | refine agree_upd rfl ?_ | refine agree_upds' rfl ?_ | exact agree_refl)), rfl⟩
          · refine WL.gyes rfl rfl hb28 ?_
            refine WL.valw (R.mv (v := (byt p_c)) h2) ?_
            refine WL.gyes rfl rfl hb28 ?_
            refine WL.valw (R.geq8 (a := p_c) (b := 65) rfl rfl) ?_
            refine WL.gyes rfl rfl hb28 ?_
            refine WL.valw (R.mv (v := (boo (decide (65 ≤ p_c)))) rfl) ?_
            refine WL.grp 3 [30, 31] 32 (boo ((decide (65 ≤ p_c)) && (decide (p_c ≤ 90)))) ?_ ?_
            · rcases boolE (decide (65 ≤ p_c)) with hb30 | hb30
              · refine WL.gyes rfl rfl hb30 ?_
                refine WL.valw (R.mv (v := (byt p_c)) h2) ?_
                refine WL.gyes rfl rfl hb30 ?_
                refine WL.valw (R.leq8 (a := p_c) (b := 90) rfl rfl) ?_
                refine WL.gyes rfl rfl hb28 ?_
                refine WL.valw (R.pickT rfl hb30 rfl) ?_
                exact WL.nil ⟨(andT hb30), (by repeat (first | refine agree_upd rfl ?_ | refine agree_upds' rfl ?_ | exact agree_refl)), rfl⟩
              · refine WL.gno rfl rfl hb30 ?_
                refine WL.gno rfl rfl hb30 ?_
                refine WL.gyes rfl rfl hb28 ?_
                refine WL.valw (R.pickF rfl hb30 rfl) ?_
                exact WL.nil ⟨(andF hb30), (by repeat (first | refine agree_upd rfl ?_ | refine agree_upds' rfl ?_ | exact agree_refl)), rfl⟩
            · intro us
              refine WL.valw (R.pickF rfl hb28 rfl) ?_
              exact WL.nil ⟨(orF hb28), (by repeat (first | refine agree_upd rfl ?_ | refine agree_upds' rfl ?_ | exact agree_refl)), rfl⟩
        · intro us
          refine WL.valw (R.mv (v := (boo (((decide (48 ≤ p_c)) && (decide (p_c ≤ 57))) || ((decide (65 ≤ p_c)) && (decide (p_c ≤ 90)))))) rfl) ?_
          refine WL.grp 7 [35, 36, 37, 38, 39, 40] 41 (boo ((((decide (48 ≤ p_c)) && (decide (p_c ≤ 57))) || ((decide (65 ≤ p_c)) && (decide (p_c ≤ 90)))) || ((decide (97 ≤ p_c)) && (decide (p_c ≤ 122))))) ?_ ?_
          · rcases boolE (((decide (48 ≤ p_c)) && (decide (p_c ≤ 57))) || ((decide (65 ≤ p_c)) && (decide (p_c ≤ 90)))) with hb32 | hb32
            · refine WL.gno rfl rfl hb32 ?_
              refine WL.gno rfl rfl hb32 ?_
              refine WL.gno rfl rfl hb32 ?_
              refine WL.gund rfl rfl ?_
              refine WL.gund rfl rfl ?_
              refine WL.gno rfl rfl hb32 ?_
              refine WL.valw (R.pickT rfl hb32 rfl) ?_
              exact WL.nil ⟨(orT hb32), (by repeat (first | refine agree_upd rfl ?_ | refine agree_upds' rfl ?_ | exact agree_refl)), rfl⟩
            · refine WL.gyes rfl rfl hb32 ?_
              refine WL.valw (R.mv (v := (byt p_c)) h2) ?_
              refine WL.gyes rfl rfl hb32 ?_
              refine WL.valw (R.geq8 (a := p_c) (b := 97) rfl rfl) ?_
              refine WL.gyes rfl rfl hb32 ?_
              refine WL.valw (R.mv (v := (boo (decide (97 ≤ p_c)))) rfl) ?_
              refine WL.grp 3 [38, 39] 40 (boo ((decide (97 ≤ p_c)) && (decide (p_c ≤ 122)))) ?_ ?_
              · rcases boolE (decide (97 ≤ p_c)) with hb34 | hb34
                · refine WL.gyes rfl rfl hb34 ?_
                  refine WL.valw (R.mv (v := (byt p_c)) h2) ?_
                  refine WL.gyes rfl rfl hb34 ?_
                  refine WL.valw (R.leq8 (a := p_c) (b := 122) rfl rfl) ?_
                  refine WL.gyes rfl rfl hb32 ?_
                  refine WL.valw (R.pickT rfl hb34 rfl) ?_
                  exact WL.nil ⟨(andT hb34), (by repeat (first | refine agree_upd rfl ?_ | refine agree_upds' rfl ?_ | exact agree_refl)), rfl⟩
                · refine WL.gno rfl rfl hb34 ?_
                  refine WL.gno rfl rfl hb34 ?_
                  refine WL.gyes rfl rfl hb32 ?_
                  refine WL.valw (R.pickF rfl hb34 rfl) ?_
                  exact WL.nil ⟨(andF hb34), (by repeat (first | refine agree_upd rfl ?_ | refine agree_upds' rfl ?_ | exact agree_refl)), rfl⟩
              · intro us
                refine WL.valw (R.pickF rfl hb32 rfl) ?_
                exact WL.nil ⟨(orF hb32), (by repeat (first | refine agree_upd rfl ?_ | refine agree_upds' rfl ?_ | exact agree_refl)), rfl⟩
          · intro us
            refine WL.valw (R.as (v := (boo ((((decide (48 ≤ p_c)) && (decide (p_c ≤ 57))) || ((decide (65 ≤ p_c)) && (decide (p_c ≤ 90)))) || ((decide (97 ≤ p_c)) && (decide (p_c ≤ 122)))))) rfl) ?_
            refine WL.nil ?_
            obtain rfl := Option.some.inj h
            refine WP.ret (Out.one rfl S rfl ?_)
            exact rfl
    · exact hM.elim
set_option maxRecDepth 10000 in
set_option maxHeartbeats 4000000 in
theorem ascii_Token_ok {w0 : World} {H0 : Hp} (hw : Holds w0 H0) (hG : Tryz.Gl w0) (p_s : Str) {r : Bool} (h : ascii_Token p_s = some r) :
    Con Tryz.prog 88 [(str p_s)] w0 H0 (fun H' v => v = (boo r)) := by
  refine Con.mk (N := 17) Tryz.func88 rfl rfl (by kernel_rfl) rfl ?_
  have S := St.start hw
  refine WP.seq ?_
  refine WP.region ?_
  refine WL.valw (R.as (v := (boo false)) rfl) ?_
  refine WL.nil ?_
  refine WP.seq ?_
  refine WP.seq ?_
  refine WP.region ?_
  refine WL.valw (R.mv (v := (str p_s)) rfl) ?_
  refine WL.valw (R.lenS (a := p_s) rfl Tryz.underlying9) ?_
  refine WL.valw (R.mv (v := (int 0)) rfl) ?_
  refine WL.nil ?_
  obtain ⟨r11, hr12, h⟩ := bindE h
  refine WP.cut (fun f w => match r11 with | .inl _ => ∃ (H6 : Hp), f 0 = (str p_s) ∧ St w0 H0 w H6 [] | .inr _ => False) ?_ ?_
  · refine WP.block ?_
    refine WP.loopM (ascii_Token_L0 p_s) (fun s f w => match s with | y_4 => ∃ (H1 : Hp), f 0 = (str p_s) ∧ f 5 = (int (p_s.length : Int)) ∧ f 6 = (int y_4) ∧ St w0 H0 w H1 []) 0 r11 hr12 ?_ ?_
    · exact ⟨H0, rfl, rfl, rfl, S⟩
    · intro y_4 f w hI y8 hy9 hy10
      obtain ⟨H1, h2, h3, h5, S⟩ := hI
      refine WP.seq ?_
      refine WP.region ?_
      refine WL.valw (R.lss h5 h3) ?_
      refine WL.nil ?_
      refine WP.seq ?_
      rcases condE hy9 with ⟨hc13, hy9⟩ | ⟨hc13, hy9⟩
      · refine WP.condT rfl hc13 ?_
        refine WP.skip ?_
        refine WP.seq ?_
        refine WP.block ?_
        refine WP.seq ?_
        refine WP.region ?_
        refine WL.valw (R.mv (v := (int y_4)) h5) ?_
        refine WL.valw (R.as (v := (int y_4)) rfl) ?_
        refine WL.nil ?_
        refine WP.seq ?_
        refine WP.region ?_
        refine WL.valw (R.mv (v := (str p_s)) h2) ?_
        refine WL.valw (R.mv (v := (int y_4)) rfl) ?_
        obtain ⟨c14, hc14, hy9⟩ := bindE hy9
        refine WL.valw (R.idxS rfl rfl Tryz.underlying9 hc14) ?_
        obtain ⟨r15, hr15, hy9⟩ := bindE hy9
        refine W.call S rfl (ascii_part_ok S.holds (hG.post S.post) c14 hr15) ?_
        rintro v16 w17 H18 hle19 S rfl
        refine WL.valw (R.not rfl) ?_
        refine WL.nil ?_
        rcases condE hy9 with ⟨hc20, hy9⟩ | ⟨hc20, hy9⟩
        · refine WP.condT rfl hc20 ?_
          refine WP.seq ?_
          refine WP.region ?_
          refine WL.valw (R.as (v := (boo false)) rfl) ?_
          refine WL.nil ?_
          obtain rfl := Option.some.inj hy9
          obtain rfl := hy10
          obtain rfl := Option.some.inj h
          refine WP.ret (Out.one rfl S rfl ?_)
          exact rfl
        · refine WP.condF rfl hc20 ?_
          refine WP.skip ?_
          refine WP.region ?_
          refine WL.valw (R.add h5 rfl) ?_
          refine WL.valw (R.mv (v := (int (wr (y_4 + 1)))) rfl) ?_
          refine WL.nil ?_
          obtain rfl := Option.some.inj hy9
          exact ⟨rfl, ⟨H18, h2, h3, rfl, S⟩⟩
      · refine WP.condF rfl hc13 ?_
        refine WP.exit ?_
        obtain rfl := Option.some.inj hy9
        obtain rfl := hy10
        exact ⟨H1, h2, S⟩
  · intro f w hM
    rcases r11 with _ | e
    · obtain ⟨H6, h7, S⟩ := hM
      refine WP.seq ?_
      refine WP.region ?_
      refine WL.valw (R.mv (v := (str p_s)) h7) ?_
      refine WL.valw (R.neqS (a := p_s) (b := []) rfl rfl) ?_
      refine WL.valw (R.as (v := (boo (p_s != []))) rfl) ?_
      refine WL.nil ?_
      obtain rfl := Option.some.inj h
      refine WP.ret (Out.one rfl S rfl ?_)
      exact rfl
    · exact hM.elim
end Go.Proofs
