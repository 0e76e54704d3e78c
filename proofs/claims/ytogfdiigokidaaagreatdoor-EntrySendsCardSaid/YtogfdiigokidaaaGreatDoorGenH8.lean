/- A part of the proof of laws of the seat: written by program over the translation. -/
import Derived.Test.YtogfdiigokidaaaGreatDoorGenH7
namespace Go.Proofs
open Go.Eng Go.Eng.Pure
set_option linter.unusedVariables false
set_option maxRecDepth 10000 in
set_option maxHeartbeats 4000000 in
theorem ref01_joined_ok {w0 : World} {H0 : Hp} (hw : Holds w0 H0) (hG : Tryz.Gl w0) (p_ppend : Str) (p_x1 : (List GField)) (p_x2 : Str) (p_x3 : Bool) (p_x4 : Bool) {vp_x1 : Value} (Rp_x1 : Sl (α := GField) H0 vp_x1 p_x1) {r : Str} (h : ref01_joined p_ppend p_x1 p_x2 p_x3 p_x4 = some r) :
    Con Tryz.prog 38 [(str p_ppend), vp_x1, (str p_x2), (boo p_x3), (boo p_x4)] w0 H0 (fun H' v => v = (str r)) := by
  refine Con.mk (N := 67) Tryz.func38 rfl rfl (by kernel_rfl) rfl ?_
  have S := St.start hw
  refine WP.seq ?_
  refine WP.region ?_
  refine WL.valw (R.as (v := (str [])) rfl) ?_
  refine WL.nil ?_
  refine WP.seq ?_
  refine WP.region ?_
  refine WL.valw (R.mv (v := vp_x1) rfl) ?_
  obtain ⟨r1, hr1, h⟩ := bindE h
  refine W.call S rfl (ref01_Unframed_ok S.holds (hG.post S.post) p_x1 Rp_x1 hr1) ?_
  rintro v2 w3 H4 hle5 S R6
  have Rp_x1 := Sl.mono Rp_x1 hle5
  refine WL.valw (R.as (v := v2) rfl) ?_
  refine WL.nil ?_
  refine WP.seq ?_
  refine WP.seq ?_
  refine WP.region ?_
  refine WL.valw (R.mv (v := (str p_ppend)) rfl) ?_
  refine WL.valw (R.eqlS (a := p_ppend) (b := []) rfl rfl) ?_
  refine WL.valw (R.mv (v := (boo (p_ppend == []))) rfl) ?_
  refine WL.grp 4 [18, 19, 20] 21 (boo ((p_ppend == []) || (decide (63 < (r1.length : Int))))) ?_ ?_
  · rcases boolE (p_ppend == []) with hb7 | hb7
    · refine WL.gno rfl rfl hb7 ?_
      refine WL.gno rfl rfl hb7 ?_
      refine WL.gno rfl rfl hb7 ?_
      refine WL.valw (R.pickT rfl hb7 rfl) ?_
      exact WL.nil ⟨(orT hb7), (by repeat (first | refine agree_upd rfl ?_ | refine agree_upds' rfl ?_ | exact agree_refl)), rfl⟩
    · refine WL.gyes rfl rfl hb7 ?_
      refine WL.valw (R.mv (v := v2) rfl) ?_
      refine WL.gyes rfl rfl hb7 ?_
      refine WL.valw (R.lenL (α := GField) (xs := r1) (H := H4) R6 rfl Tryz.underlying24) ?_
      refine WL.gyes rfl rfl hb7 ?_
      refine WL.valw (R.gtr rfl rfl) ?_
      refine WL.valw (R.pickF rfl hb7 rfl) ?_
      exact WL.nil ⟨(orF hb7), (by repeat (first | refine agree_upd rfl ?_ | refine agree_upds' rfl ?_ | exact agree_refl)), rfl⟩
  · intro us
    refine WL.valw (R.mv (v := (boo ((p_ppend == []) || (decide (63 < (r1.length : Int)))))) rfl) ?_
    refine WL.grp 4 [23, 24, 25] 26 (boo (((p_ppend == []) || (decide (63 < (r1.length : Int)))) || (decide (100000 < (p_x2.length : Int))))) ?_ ?_
    · rcases boolE ((p_ppend == []) || (decide (63 < (r1.length : Int)))) with hb9 | hb9
      · refine WL.gno rfl rfl hb9 ?_
        refine WL.gno rfl rfl hb9 ?_
        refine WL.gno rfl rfl hb9 ?_
        refine WL.valw (R.pickT rfl hb9 rfl) ?_
        exact WL.nil ⟨(orT hb9), (by repeat (first | refine agree_upd rfl ?_ | refine agree_upds' rfl ?_ | exact agree_refl)), rfl⟩
      · refine WL.gyes rfl rfl hb9 ?_
        refine WL.valw (R.mv (v := (str p_x2)) rfl) ?_
        refine WL.gyes rfl rfl hb9 ?_
        refine WL.valw (R.lenS (a := p_x2) rfl Tryz.underlying9) ?_
        refine WL.gyes rfl rfl hb9 ?_
        refine WL.valw (R.gtr rfl rfl) ?_
        refine WL.valw (R.pickF rfl hb9 rfl) ?_
        exact WL.nil ⟨(orF hb9), (by repeat (first | refine agree_upd rfl ?_ | refine agree_upds' rfl ?_ | exact agree_refl)), rfl⟩
    · intro us
      refine WL.nil ?_
      rcases condE h with ⟨hc11, h⟩ | ⟨hc11, h⟩
      · refine WP.condT rfl hc11 ?_
        refine WP.seq ?_
        refine WP.region ?_
        refine WL.valw (R.as (v := (str [])) rfl) ?_
        refine WL.nil ?_
        obtain rfl := Option.some.inj h
        refine WP.ret (Out.one rfl S rfl ?_)
        exact rfl
      · refine WP.condF rfl hc11 ?_
        refine WP.skip ?_
        refine WP.seq ?_
        refine WP.region ?_
        refine WL.valw (R.mv (v := (str p_ppend)) rfl) ?_
        obtain ⟨s12, hs12, h⟩ := bindE h
        refine WL.valw (R.cat (a := p_ppend) (b := [13, 10]) rfl rfl hs12) ?_
        refine WL.valw (R.as (v := (str s12)) rfl) ?_
        refine WL.nil ?_
        refine WP.seq ?_
        refine WP.seq ?_
        refine WP.region ?_
        refine WL.valw (R.as (v := (int 0)) rfl) ?_
        refine WL.nil ?_
        obtain ⟨r31, hr32, h⟩ := bindE h
        refine WP.cut (fun f w => match r31 with | .inl y_26 => ∃ (H22 : Hp), f 2 = (str p_x2) ∧ f 3 = (boo p_x3) ∧ f 4 = (boo p_x4) ∧ f 11 = (str y_26) ∧ St w0 H0 w H22 [] | .inr _ => False) ?_ ?_
        · refine WP.block ?_
          refine WP.loopM (ref01_joined_L0 r1) (fun s f w => match s with | (y_18, y_20) => ∃ (H13 : Hp), f 1 = v2 ∧ f 2 = (str p_x2) ∧ f 3 = (boo p_x3) ∧ f 4 = (boo p_x4) ∧ f 11 = (str y_18) ∧ f 12 = (int y_20) ∧ Sl (α := GField) H13 v2 r1 ∧ St w0 H0 w H13 []) (s12, 0) r31 hr32 ?_ ?_
          · exact ⟨H4, rfl, rfl, rfl, rfl, rfl, rfl, R6, S⟩
          · intro s f w hI y28 hy29 hy30
            obtain ⟨y_18, y_20⟩ := s
            obtain ⟨H13, h14, h15, h16, h17, h19, h21, R6, S⟩ := hI
            refine WP.seq ?_
            refine WP.seq ?_
            refine WP.region ?_
            refine WL.valw (R.mv (v := (int y_20)) h21) ?_
            refine WL.valw (R.mv (v := v2) h14) ?_
            refine WL.valw (R.lenL (α := GField) (xs := r1) (H := H13) R6 rfl Tryz.underlying24) ?_
            refine WL.valw (R.lss rfl rfl) ?_
            refine WL.nil ?_
            rcases condE hy29 with ⟨hc33, hy29⟩ | ⟨hc33, hy29⟩
            · refine WP.condT rfl hc33 ?_
              refine WP.skip ?_
              refine WP.seq ?_
              refine WP.block ?_
              refine WP.seq ?_
              refine WP.seq ?_
              refine WP.region ?_
              refine WL.valw (R.mv (v := v2) h14) ?_
              refine WL.valw (R.mv (v := (int y_20)) h21) ?_
              obtain ⟨x34, hx34, hy29⟩ := bindE hy29
              refine W.idx (α := GField) R6 rfl rfl el24 hx34 ?_
              rintro a35 _ hA36 rfl
              refine WL.valw (R.loadHN (vs := [(str x34.fName), (str x34.fValue)]) S rfl hA36 lay53 rfl rfl) ?_
              obtain ⟨r37, hr37, hy29⟩ := bindE hy29
              refine W.call S rfl (ref01_ValidField_ok S.holds (hG.post S.post) x34 hr37) ?_
              rintro v38 w39 H40 hle41 S rfl
              have R6 := Sl.mono R6 hle41
              have hA36 := At.mono hA36 hle41 (by simp)
              refine WL.valw (R.not rfl) ?_
              refine WL.nil ?_
              rcases condE hy29 with ⟨hc42, hy29⟩ | ⟨hc42, hy29⟩
              · refine WP.condT rfl hc42 ?_
                refine WP.seq ?_
                refine WP.region ?_
                refine WL.valw (R.as (v := (str [])) rfl) ?_
                refine WL.nil ?_
                obtain rfl := Option.some.inj hy29
                obtain rfl := hy30
                obtain rfl := Option.some.inj h
                refine WP.ret (Out.one rfl S rfl ?_)
                exact rfl
              · refine WP.condF rfl hc42 ?_
                refine WP.skip ?_
                refine WP.region ?_
                refine WL.valw (R.mv (v := (str y_18)) h19) ?_
                refine WL.valw (R.mv (v := v2) h14) ?_
                refine WL.valw (R.mv (v := (int y_20)) h21) ?_
                obtain ⟨x43, hx43, hy29⟩ := bindE hy29
                refine W.idx (α := GField) R6 rfl rfl el24 hx43 ?_
                rintro a44 _ hA45 rfl
                refine WL.valw (R.loadHN (vs := [(str x43.fName), (str x43.fValue)]) S rfl hA45 lay53 rfl rfl) ?_
                obtain ⟨r46, hr46, hy29⟩ := bindE hy29
                refine W.call S rfl (ref01_form_ok S.holds (hG.post S.post) x43 hr46) ?_
                rintro v47 w48 H49 hle50 S rfl
                have R6 := Sl.mono R6 hle50
                have hA36 := At.mono hA36 hle50 (by simp)
                have hA45 := At.mono hA45 hle50 (by simp)
                obtain ⟨s51, hs51, hy29⟩ := bindE hy29
                refine WL.valw (R.cat (a := r46) (b := [13, 10]) rfl rfl hs51) ?_
                obtain ⟨s52, hs52, hy29⟩ := bindE hy29
                refine WL.valw (R.cat (a := y_18) (b := s51) rfl rfl hs52) ?_
                refine WL.valw (R.as (v := (str s52)) rfl) ?_
                refine WL.nil ?_
                refine WP.region ?_
                refine WL.valw (R.mv (v := (int y_20)) h21) ?_
                refine WL.valw (R.add rfl rfl) ?_
                refine WL.valw (R.as (v := (int (wr (y_20 + 1)))) rfl) ?_
                refine WL.nil ?_
                obtain rfl := Option.some.inj hy29
                exact ⟨rfl, ⟨H49, h14, h15, h16, h17, rfl, rfl, R6, S⟩⟩
            · refine WP.condF rfl hc33 ?_
              refine WP.exit ?_
              obtain rfl := Option.some.inj hy29
              obtain rfl := hy30
              exact ⟨H13, h15, h16, h17, h19, S⟩
        · intro f w hM
          rcases r31 with y_26 | e
          · obtain ⟨H22, h23, h24, h25, h27, S⟩ := hM
            refine WP.seq ?_
            refine WP.seq ?_
            refine WP.region ?_
            refine WL.valw (R.mv (v := (boo p_x3)) h24) ?_
            refine WL.nil ?_
            obtain ⟨y_56, hj58, h⟩ := bindE h
            refine WP.cut (fun f w => ∃ (H53 : Hp), f 2 = (str p_x2) ∧ f 4 = (boo p_x4) ∧ f 11 = (str y_56) ∧ St w0 H0 w H53 []) ?_ ?_
            · rcases condE hj58 with ⟨hc60, hj58⟩ | ⟨hc60, hj58⟩
              · refine WP.condT rfl hc60 ?_
                refine WP.region ?_
                refine WL.valw (R.mv (v := (str y_26)) h27) ?_
                refine WL.valw (R.mv (v := (str p_x2)) h23) ?_
                refine WL.valw (R.lenS (a := p_x2) rfl Tryz.underlying9) ?_
                obtain ⟨r61, hr61, hj58⟩ := bindE hj58
                refine W.call S rfl (ref01_Decimal_ok S.holds (hG.post S.post) (p_x2.length : Int) hr61) ?_
                rintro v62 w63 H64 hle65 S rfl
                obtain ⟨s66, hs66, hj58⟩ := bindE hj58
                refine WL.valw (R.cat (a := [67, 111, 110, 116, 101, 110, 116, 45, 76, 101, 110, 103, 116, 104, 58, 32]) (b := r61) rfl rfl hs66) ?_
                obtain ⟨s67, hs67, hj58⟩ := bindE hj58
                refine WL.valw (R.cat (a := s66) (b := [13, 10]) rfl rfl hs67) ?_
                obtain ⟨s68, hs68, hj58⟩ := bindE hj58
                refine WL.valw (R.cat (a := y_26) (b := s67) rfl rfl hs68) ?_
                refine WL.valw (R.as (v := (str s68)) rfl) ?_
                refine WL.nil ?_
                obtain rfl := Option.some.inj hj58
                exact ⟨H64, h23, h25, rfl, S⟩
              · refine WP.condF rfl hc60 ?_
                refine WP.skip ?_
                obtain rfl := Option.some.inj hj58
                exact ⟨H22, h23, h25, h27, S⟩
            · rintro f w ⟨H53, h54, h55, h57, S⟩
              refine WP.seq ?_
              refine WP.region ?_
              refine WL.valw (R.mv (v := (str y_56)) h57) ?_
              obtain ⟨s69, hs69, h⟩ := bindE h
              refine WL.valw (R.cat (a := y_56) (b := [13, 10]) rfl rfl hs69) ?_
              refine WL.valw (R.as (v := (str s69)) rfl) ?_
              refine WL.nil ?_
              refine WP.seq ?_
              refine WP.seq ?_
              refine WP.region ?_
              refine WL.valw (R.mv (v := (str s69)) rfl) ?_
              refine WL.valw (R.lenS (a := s69) rfl Tryz.underlying9) ?_
              refine WL.valw (R.gtr rfl rfl) ?_
              refine WL.nil ?_
              rcases condE h with ⟨hc70, h⟩ | ⟨hc70, h⟩
              · refine WP.condT rfl hc70 ?_
                refine WP.seq ?_
                refine WP.region ?_
                refine WL.valw (R.as (v := (str [])) rfl) ?_
                refine WL.nil ?_
                obtain rfl := Option.some.inj h
                refine WP.ret (Out.one rfl S rfl ?_)
                exact rfl
              · refine WP.condF rfl hc70 ?_
                refine WP.skip ?_
                refine WP.seq ?_
                refine WP.seq ?_
                refine WP.region ?_
                refine WL.valw (R.mv (v := (boo p_x4)) h55) ?_
                refine WL.nil ?_
                obtain ⟨y_72, hj74, h⟩ := bindE h
                refine WP.cut (fun f w => ∃ (H71 : Hp), f 11 = (str y_72) ∧ St w0 H0 w H71 []) ?_ ?_
                · rcases condE hj74 with ⟨hc76, hj74⟩ | ⟨hc76, hj74⟩
                  · refine WP.condT rfl hc76 ?_
                    refine WP.region ?_
                    refine WL.valw (R.mv (v := (str s69)) rfl) ?_
                    refine WL.valw (R.mv (v := (str p_x2)) h54) ?_
                    obtain ⟨s77, hs77, hj74⟩ := bindE hj74
                    refine WL.valw (R.cat (a := s69) (b := p_x2) rfl rfl hs77) ?_
                    refine WL.valw (R.as (v := (str s77)) rfl) ?_
                    refine WL.nil ?_
                    obtain rfl := Option.some.inj hj74
                    exact ⟨H53, rfl, S⟩
                  · refine WP.condF rfl hc76 ?_
                    refine WP.skip ?_
                    obtain rfl := Option.some.inj hj74
                    exact ⟨H53, rfl, S⟩
                · rintro f w ⟨H71, h73, S⟩
                  refine WP.seq ?_
                  refine WP.region ?_
                  refine WL.valw (R.mv (v := (str y_72)) h73) ?_
                  refine WL.valw (R.as (v := (str y_72)) rfl) ?_
                  refine WL.nil ?_
                  obtain rfl := Option.some.inj h
                  refine WP.ret (Out.one rfl S rfl ?_)
                  exact rfl
          · exact hM.elim
set_option maxRecDepth 10000 in
set_option maxHeartbeats 4000000 in
theorem ref01_FormatResponse_ok {w0 : World} {H0 : Hp} (hw : Holds w0 H0) (hG : Tryz.Gl w0) (p_r : GResponse) (p_method : Str) {vp_r3 : Value} (Rp_r3 : Sl (α := GField) H0 vp_r3 p_r.fFields) {r : Str} (h : ref01_FormatResponse p_r p_method = some r) :
    Con Tryz.prog 15 [(agg [(int p_r.fMinor), (int p_r.fStatus), (str p_r.fReason), vp_r3, (str p_r.fBody)]), (str p_method)] w0 H0 (fun H' v => v = (str r)) := by
  refine Con.mk (N := 26) Tryz.func15 rfl rfl (by kernel_rfl) rfl ?_
  have S := St.start hw
  refine WP.seq ?_
  refine WP.region ?_
  refine W.box [(int p_r.fMinor), (int p_r.fStatus), (str p_r.fReason), vp_r3, (str p_r.fBody)] S rfl rfl ?_
  intro b1 w2 S
  refine WL.valw (R.as (v := (str [])) rfl) ?_
  refine WL.nil ?_
  refine WP.seq ?_
  refine WP.region ?_
  refine WL.valw (R.fieldB rfl fld30_1) ?_
  refine WL.valw (R.loadB (i := 0) (v := (int p_r.fStatus)) S rfl rfl lay3 rfl) ?_
  refine WL.valw (R.mv (v := (str p_method)) rfl) ?_
  obtain ⟨r3, hr3, h⟩ := bindE h
  refine W.call S rfl (ref01_Bodiless_ok S.holds (hG.post S.post) p_r.fStatus p_method hr3) ?_
  rintro v4 w5 H6 hle7 S rfl
  have Rp_r3 := Sl.mono Rp_r3 hle7
  refine WL.valw (R.as (v := (boo r3)) rfl) ?_
  refine WL.nil ?_
  refine WP.seq ?_
  refine WP.quiet S (by kernel_rfl) (by kernel_rfl) ?_
  refine WQ.val (fun _ _ => (R.fieldB rfl fld30_0)) ?_
  refine WQ.val (fun w hw => by obtain ⟨_, hq, S⟩ := hw; exact (R.loadB (i := 0) (v := (int p_r.fMinor)) S rfl rfl lay3 rfl)) ?_
  refine WQ.val (fun _ _ => (R.fieldB rfl fld30_1)) ?_
  refine WQ.val (fun w hw => by obtain ⟨_, hq, S⟩ := hw; exact (R.loadB (i := 0) (v := (int p_r.fStatus)) S rfl rfl lay3 rfl)) ?_
  refine WQ.val (fun _ _ => (R.fieldB rfl fld30_2)) ?_
  refine WQ.val (fun w hw => by obtain ⟨_, hq, S⟩ := hw; exact (R.loadB (i := 0) (v := (str p_r.fReason)) S rfl rfl lay9 rfl)) ?_
  obtain ⟨r11, hr11, h⟩ := bindE h
  refine WQ.call (v := (str r11)) rfl (fun w H' hq S => ref01_FormatStatusLine_ok S.holds (hG.post S.post) p_r.fMinor p_r.fStatus p_r.fReason hr11) ?_
  refine WQ.val (fun _ _ => (R.fieldB rfl fld30_3)) ?_
  refine WQ.val (fun w hw => by obtain ⟨_, hq, S⟩ := hw; exact (R.loadB (i := 0) (v := vp_r3) S rfl rfl lay24 rfl)) ?_
  refine WQ.val (fun _ _ => (R.fieldB rfl fld30_4)) ?_
  refine WQ.val (fun w hw => by obtain ⟨_, hq, S⟩ := hw; exact (R.loadB (i := 0) (v := (str p_r.fBody)) S rfl rfl lay9 rfl)) ?_
  refine WQ.val (fun _ _ => (R.mv (v := (boo r3)) rfl)) ?_
  refine WQ.val (fun _ _ => (R.not rfl)) ?_
  refine WQ.val (fun _ _ => (R.mv (v := (boo r3)) rfl)) ?_
  refine WQ.val (fun _ _ => (R.not rfl)) ?_
  obtain ⟨r16, hr16, h⟩ := bindE h
  refine WQ.call (v := (str r16)) rfl (fun w H' hq S => ref01_joined_ok S.holds (hG.post S.post) r11 p_r.fFields p_r.fBody (!r3) (!r3) (Sl.mono Rp_r3 hq) hr16) ?_
  refine WQ.val (fun _ _ => (R.as (v := (str r16)) rfl)) ?_
  refine WQ.nil ?_
  intro w8 H9 hle10 S
  have Rp_r3 := Sl.mono Rp_r3 hle10
  obtain rfl := Option.some.inj h
  refine WP.ret (Out.one rfl S rfl ?_)
  exact rfl
set_option maxRecDepth 10000 in
set_option maxHeartbeats 4000000 in
theorem entry_lengths_ok {w0 : World} {H0 : Hp} (hw : Holds w0 H0) (hG : Tryz.Gl w0) (p_l : (List Str)) {vp_l : Value} (Rp_l : Sl (α := Str) H0 vp_l p_l) {r : Int} (h : entry_lengths p_l = some r) :
    Con Tryz.prog 70 [vp_l] w0 H0 (fun H' v => v = (int r)) := by
  refine Con.mk (N := 19) Tryz.func70 rfl rfl (by kernel_rfl) rfl ?_
  have S := St.start hw
  refine WP.seq ?_
  refine WP.region ?_
  refine WL.valw (R.as (v := (int 0)) rfl) ?_
  refine WL.nil ?_
  refine WP.seq ?_
  refine WP.region ?_
  refine WL.valw (R.as (v := (int 0)) rfl) ?_
  refine WL.nil ?_
  refine WP.seq ?_
  refine WP.seq ?_
  refine WP.region ?_
  refine WL.valw (R.mv (v := vp_l) rfl) ?_
  refine WL.valw (R.lenL (α := Str) (xs := p_l) (H := H0) Rp_l rfl Tryz.underlying23) ?_
  refine WL.valw (R.mv (v := (int 0)) rfl) ?_
  refine WL.nil ?_
  obtain ⟨n_9, hr15, h⟩ := bindE h
  refine WP.cut (fun f w => ∃ (H8 : Hp), f 3 = (int n_9) ∧ St w0 H0 w H8 []) ?_ ?_
  · refine WP.block ?_
    refine WP.loopM (entry_lengths_L0 p_l) (fun s f w => match s with | (n_2, y_6) => ∃ (H1 : Hp), f 3 = (int n_2) ∧ f 6 = vp_l ∧ f 7 = (int (p_l.length : Int)) ∧ f 8 = (int y_6) ∧ Sl (α := Str) H1 vp_l p_l ∧ St w0 H0 w H1 []) (0, 0) n_9 hr15 ?_ ?_
    · exact ⟨H0, rfl, rfl, rfl, rfl, Rp_l, S⟩
    · intro s f w hI y11 hy12 hy13
      obtain ⟨n_2, y_6⟩ := s
      obtain ⟨H1, h3, h4, h5, h7, Rp_l, S⟩ := hI
      refine WP.seq ?_
      refine WP.region ?_
      refine WL.valw (R.lss h7 h5) ?_
      refine WL.nil ?_
      refine WP.seq ?_
      rcases condE hy12 with ⟨hc16, hy12⟩ | ⟨hc16, hy12⟩
      · refine WP.condT rfl hc16 ?_
        refine WP.skip ?_
        refine WP.seq ?_
        refine WP.block ?_
        refine WP.seq ?_
        refine WP.region ?_
        obtain ⟨x17, hx17, hy12⟩ := bindE hy12
        refine W.idx (α := Str) Rp_l h4 h7 el23 hx17 ?_
        rintro a18 _ hA19 rfl
        refine WL.valw (R.loadH (v := (str x17)) S rfl hA19 lay9 rfl) ?_
        refine WL.valw (R.as (v := (str x17)) rfl) ?_
        refine WL.nil ?_
        refine WP.region ?_
        refine WL.valw (R.mv (v := (int n_2)) h3) ?_
        refine WL.valw (R.mv (v := (str x17)) rfl) ?_
        refine WL.valw (R.lenS (a := x17) rfl Tryz.underlying9) ?_
        refine WL.valw (R.add rfl rfl) ?_
        refine WL.valw (R.add rfl rfl) ?_
        refine WL.valw (R.as (v := (int (wr (n_2 + (wr (4 + (x17.length : Int))))))) rfl) ?_
        refine WL.nil ?_
        refine WP.region ?_
        refine WL.valw (R.add h7 rfl) ?_
        refine WL.valw (R.mv (v := (int (wr (y_6 + 1)))) rfl) ?_
        refine WL.nil ?_
        obtain rfl := Option.some.inj hy12
        exact ⟨rfl, ⟨H1, rfl, h4, h5, rfl, Rp_l, S⟩⟩
      · refine WP.condF rfl hc16 ?_
        refine WP.exit ?_
        obtain rfl := Option.some.inj hy12
        obtain rfl := hy13
        exact ⟨H1, h3, S⟩
  · rintro f w ⟨H8, h10, S⟩
    refine WP.seq ?_
    refine WP.region ?_
    refine WL.valw (R.mv (v := (int n_9)) h10) ?_
    refine WL.valw (R.as (v := (int n_9)) rfl) ?_
    refine WL.nil ?_
    obtain rfl := Option.some.inj h
    refine WP.ret (Out.one rfl S rfl ?_)
    exact rfl
set_option maxRecDepth 10000 in
set_option maxHeartbeats 4000000 in
theorem entry_Size_ok {w0 : World} {H0 : Hp} (hw : Holds w0 H0) (hG : Tryz.Gl w0) (p_e : GEntry) {vp_e0 : Value} {vp_e1 : Value} {vp_e2 : Value} {vp_e4 : Value} (Rp_e0 : Sl (α := (List Str)) H0 vp_e0 p_e.fKeys) (Rp_e1 : Sl (α := Str) H0 vp_e1 p_e.fVary) (Rp_e2 : Sl (α := Str) H0 vp_e2 p_e.fSnapshot) (Rp_e4 : Sl (α := GField) H0 vp_e4 p_e.fFields) {r : Int} (h : entry_Size p_e = some r) :
    Con Tryz.prog 36 [(agg [vp_e0, vp_e1, vp_e2, (str p_e.fReason), vp_e4, (str p_e.fBody), (int p_e.fRequested), (int p_e.fReceived)])] w0 H0 (fun H' v => v = (int r)) := by
  refine Con.mk (N := 55) Tryz.func36 rfl rfl (by kernel_rfl) rfl ?_
  have S := St.start hw
  refine WP.seq ?_
  refine WP.region ?_
  refine W.box [vp_e0, vp_e1, vp_e2, (str p_e.fReason), vp_e4, (str p_e.fBody), (int p_e.fRequested), (int p_e.fReceived)] S rfl rfl ?_
  intro b1 w2 S
  refine WL.valw (R.as (v := (int 0)) rfl) ?_
  refine WL.nil ?_
  refine WP.seq ?_
  refine WP.quiet S (by kernel_rfl) (by kernel_rfl) ?_
  refine WQ.val (fun _ _ => (R.fieldB rfl fld26_3)) ?_
  refine WQ.val (fun w hw => by obtain ⟨_, hq, S⟩ := hw; exact (R.loadB (i := 0) (v := (str p_e.fReason)) S rfl rfl lay9 rfl)) ?_
  refine WQ.val (fun _ _ => (R.lenS (a := p_e.fReason) rfl Tryz.underlying9)) ?_
  refine WQ.val (fun _ _ => (R.add rfl rfl)) ?_
  refine WQ.val (fun _ _ => (R.fieldB rfl fld26_5)) ?_
  refine WQ.val (fun w hw => by obtain ⟨_, hq, S⟩ := hw; exact (R.loadB (i := 0) (v := (str p_e.fBody)) S rfl rfl lay9 rfl)) ?_
  refine WQ.val (fun _ _ => (R.lenS (a := p_e.fBody) rfl Tryz.underlying9)) ?_
  refine WQ.val (fun _ _ => (R.add rfl rfl)) ?_
  refine WQ.val (fun _ _ => (R.fieldB rfl fld26_1)) ?_
  refine WQ.val (fun w hw => by obtain ⟨_, hq, S⟩ := hw; exact (R.loadB (i := 0) (v := vp_e1) S rfl rfl lay23 rfl)) ?_
  obtain ⟨r6, hr6, h⟩ := bindE h
  refine WQ.call (v := (int r6)) rfl (fun w H' hq S => entry_lengths_ok S.holds (hG.post S.post) p_e.fVary (Sl.mono Rp_e1 hq) hr6) ?_
  refine WQ.val (fun _ _ => (R.add rfl rfl)) ?_
  refine WQ.val (fun _ _ => (R.fieldB rfl fld26_2)) ?_
  refine WQ.val (fun w hw => by obtain ⟨_, hq, S⟩ := hw; exact (R.loadB (i := 0) (v := vp_e2) S rfl rfl lay23 rfl)) ?_
  obtain ⟨r11, hr11, h⟩ := bindE h
  refine WQ.call (v := (int r11)) rfl (fun w H' hq S => entry_lengths_ok S.holds (hG.post S.post) p_e.fSnapshot (Sl.mono Rp_e2 hq) hr11) ?_
  refine WQ.val (fun _ _ => (R.add rfl rfl)) ?_
  refine WQ.val (fun _ _ => (R.as (v := (int (wr ((wr ((wr ((wr (100 + (p_e.fReason.length : Int))) + (p_e.fBody.length : Int))) + r6)) + r11)))) rfl)) ?_
  refine WQ.nil ?_
  intro w3 H4 hle5 S
  have Rp_e0 := Sl.mono Rp_e0 hle5
  have Rp_e1 := Sl.mono Rp_e1 hle5
  have Rp_e2 := Sl.mono Rp_e2 hle5
  have Rp_e4 := Sl.mono Rp_e4 hle5
  refine WP.seq ?_
  refine WP.seq ?_
  refine WP.region ?_
  refine WL.valw (R.fieldB rfl fld26_4) ?_
  refine WL.valw (R.loadB (i := 0) (v := vp_e4) S rfl rfl lay24 rfl) ?_
  refine WL.valw (R.lenL (α := GField) (xs := p_e.fFields) (H := H4) Rp_e4 rfl Tryz.underlying24) ?_
  refine WL.valw (R.mv (v := (int 0)) rfl) ?_
  refine WL.nil ?_
  obtain ⟨n_26, hr32, h⟩ := bindE h
  refine WP.cut (fun f w => ∃ (H24 : Hp), f 1 = (ptr b1 0) ∧ f 3 = (int n_26) ∧ Sl (α := (List Str)) H24 vp_e0 p_e.fKeys ∧ Sl (α := Str) H24 vp_e1 p_e.fVary ∧ Sl (α := Str) H24 vp_e2 p_e.fSnapshot ∧ Sl (α := GField) H24 vp_e4 p_e.fFields ∧ St w0 H0 w H24 [.box b1 26 [vp_e0, vp_e1, vp_e2, (str p_e.fReason), vp_e4, (str p_e.fBody), (int p_e.fRequested), (int p_e.fReceived)]]) ?_ ?_
  · refine WP.block ?_
    refine WP.loopM (entry_Size_L0 p_e) (fun s f w => match s with | (n_18, y_22) => ∃ (H16 : Hp), f 1 = (ptr b1 0) ∧ f 3 = (int n_18) ∧ f 25 = vp_e4 ∧ f 26 = (int (p_e.fFields.length : Int)) ∧ f 27 = (int y_22) ∧ Sl (α := GField) H16 vp_e4 p_e.fFields ∧ Sl (α := (List Str)) H16 vp_e0 p_e.fKeys ∧ Sl (α := Str) H16 vp_e1 p_e.fVary ∧ Sl (α := Str) H16 vp_e2 p_e.fSnapshot ∧ St w0 H0 w H16 [.box b1 26 [vp_e0, vp_e1, vp_e2, (str p_e.fReason), vp_e4, (str p_e.fBody), (int p_e.fRequested), (int p_e.fReceived)]]) (wr ((wr ((wr ((wr (100 + (p_e.fReason.length : Int))) + (p_e.fBody.length : Int))) + r6)) + r11), 0) n_26 hr32 ?_ ?_
    · exact ⟨H4, rfl, rfl, rfl, rfl, rfl, Rp_e4, Rp_e0, Rp_e1, Rp_e2, S⟩
    · intro s f w hI y28 hy29 hy30
      obtain ⟨n_18, y_22⟩ := s
      obtain ⟨H16, h17, h19, h20, h21, h23, Rp_e4, Rp_e0, Rp_e1, Rp_e2, S⟩ := hI
      refine WP.seq ?_
      refine WP.region ?_
      refine WL.valw (R.lss h23 h21) ?_
      refine WL.nil ?_
      refine WP.seq ?_
      rcases condE hy29 with ⟨hc33, hy29⟩ | ⟨hc33, hy29⟩
      · refine WP.condT rfl hc33 ?_
        refine WP.skip ?_
        refine WP.seq ?_
        refine WP.block ?_
        refine WP.seq ?_
        refine WP.region ?_
        obtain ⟨x34, hx34, hy29⟩ := bindE hy29
        refine W.idx (α := GField) Rp_e4 h20 h23 el24 hx34 ?_
        rintro a35 _ hA36 rfl
        refine WL.valw (R.loadHN (vs := [(str x34.fName), (str x34.fValue)]) S rfl hA36 lay53 rfl rfl) ?_
        refine W.alloc [(str []), (str [])] S zer53 ?_
        intro b37 w38 S
        refine W.store (i := 0) [(str x34.fName), (str x34.fValue)] S rfl rfl rfl lay53 rfl rfl (Nat.le_of_ble_eq_true rfl) rfl ?_
        intro w39 S
        refine WL.nil ?_
        refine WP.region ?_
        refine WL.valw (R.mv (v := (int n_18)) h19) ?_
        refine WL.valw (R.fieldB rfl fld53_0) ?_
        refine WL.valw (R.loadB (i := 0) (v := (str x34.fName)) S rfl rfl lay9 rfl) ?_
        refine WL.valw (R.lenS (a := x34.fName) rfl Tryz.underlying9) ?_
        refine WL.valw (R.add rfl rfl) ?_
        refine WL.valw (R.fieldB rfl fld53_1) ?_
        refine WL.valw (R.loadB (i := 0) (v := (str x34.fValue)) S rfl rfl lay9 rfl) ?_
        refine WL.valw (R.lenS (a := x34.fValue) rfl Tryz.underlying9) ?_
        refine WL.valw (R.add rfl rfl) ?_
        refine WL.valw (R.add rfl rfl) ?_
        refine WL.valw (R.as (v := (int (wr (n_18 + (wr ((wr (4 + (x34.fName.length : Int))) + (x34.fValue.length : Int))))))) rfl) ?_
        refine WL.nil ?_
        refine WP.region ?_
        refine WL.valw (R.add h23 rfl) ?_
        refine WL.valw (R.mv (v := (int (wr (y_22 + 1)))) rfl) ?_
        refine WL.nil ?_
        obtain rfl := Option.some.inj hy29
        exact ⟨rfl, ⟨H16, h17, rfl, h20, h21, rfl, Rp_e4, Rp_e0, Rp_e1, Rp_e2, (S.drop _ (.cons _ (.cons_cons _ .slnil)))⟩⟩
      · refine WP.condF rfl hc33 ?_
        refine WP.exit ?_
        obtain rfl := Option.some.inj hy29
        obtain rfl := hy30
        exact ⟨H16, h17, h19, Rp_e0, Rp_e1, Rp_e2, Rp_e4, S⟩
  · rintro f w ⟨H24, h25, h27, Rp_e0, Rp_e1, Rp_e2, Rp_e4, S⟩
    refine WP.seq ?_
    refine WP.seq ?_
    refine WP.region ?_
    refine WL.valw (R.fieldB h25 fld26_0) ?_
    refine WL.valw (R.loadB (i := 0) (v := vp_e0) S rfl rfl lay22 rfl) ?_
    refine WL.valw (R.lenL (α := (List Str)) (xs := p_e.fKeys) (H := H24) Rp_e0 rfl Tryz.underlying22) ?_
    refine WL.valw (R.mv (v := (int 0)) rfl) ?_
    refine WL.nil ?_
    obtain ⟨n_48, hr54, h⟩ := bindE h
    refine WP.cut (fun f w => ∃ (H47 : Hp), f 3 = (int n_48) ∧ St w0 H0 w H47 []) ?_ ?_
    · refine WP.block ?_
      refine WP.loopM (entry_Size_L1 p_e) (fun s f w => match s with | (n_41, y_45) => ∃ (H40 : Hp), f 3 = (int n_41) ∧ f 43 = vp_e0 ∧ f 44 = (int (p_e.fKeys.length : Int)) ∧ f 45 = (int y_45) ∧ Sl (α := (List Str)) H40 vp_e0 p_e.fKeys ∧ St w0 H0 w H40 []) (n_26, 0) n_48 hr54 ?_ ?_
      · exact ⟨H24, h27, rfl, rfl, rfl, Rp_e0, (S.drop _ (.cons _ .slnil))⟩
      · intro s f w hI y50 hy51 hy52
        obtain ⟨n_41, y_45⟩ := s
        obtain ⟨H40, h42, h43, h44, h46, Rp_e0, S⟩ := hI
        refine WP.seq ?_
        refine WP.region ?_
        refine WL.valw (R.lss h46 h44) ?_
        refine WL.nil ?_
        refine WP.seq ?_
        rcases condE hy51 with ⟨hc55, hy51⟩ | ⟨hc55, hy51⟩
        · refine WP.condT rfl hc55 ?_
          refine WP.skip ?_
          refine WP.seq ?_
          refine WP.block ?_
          refine WP.seq ?_
          refine WP.region ?_
          obtain ⟨x56, hx56, hy51⟩ := bindE hy51
          refine W.idx (α := (List Str)) Rp_e0 h43 h46 el22 hx56 ?_
          rintro a57 _ hA58 ⟨v59, rfl, R60⟩
          refine WL.valw (R.loadH (v := v59) S rfl hA58 lay23 rfl) ?_
          refine WL.valw (R.as (v := v59) rfl) ?_
          refine WL.nil ?_
          refine WP.region ?_
          refine WL.valw (R.mv (v := (int n_41)) h42) ?_
          refine WL.valw (R.mv (v := v59) rfl) ?_
          obtain ⟨r61, hr61, hy51⟩ := bindE hy51
          refine W.call S rfl (entry_lengths_ok S.holds (hG.post S.post) x56 R60 hr61) ?_
          rintro v62 w63 H64 hle65 S rfl
          have Rp_e0 := Sl.mono Rp_e0 hle65
          have hA58 := At.mono hA58 hle65 (by simp)
          have R60 := Sl.mono R60 hle65
          refine WL.valw (R.add rfl rfl) ?_
          refine WL.valw (R.as (v := (int (wr (n_41 + r61)))) rfl) ?_
          refine WL.nil ?_
          refine WP.region ?_
          refine WL.valw (R.add h46 rfl) ?_
          refine WL.valw (R.mv (v := (int (wr (y_45 + 1)))) rfl) ?_
          refine WL.nil ?_
          obtain rfl := Option.some.inj hy51
          exact ⟨rfl, ⟨H64, rfl, h43, h44, rfl, Rp_e0, S⟩⟩
        · refine WP.condF rfl hc55 ?_
          refine WP.exit ?_
          obtain rfl := Option.some.inj hy51
          obtain rfl := hy52
          exact ⟨H40, h42, S⟩
    · rintro f w ⟨H47, h49, S⟩
      refine WP.seq ?_
      refine WP.region ?_
      refine WL.valw (R.mv (v := (int n_48)) h49) ?_
      refine WL.valw (R.as (v := (int n_48)) rfl) ?_
      refine WL.nil ?_
      obtain rfl := Option.some.inj h
      refine WP.ret (Out.one rfl S rfl ?_)
      exact rfl
set_option maxRecDepth 10000 in
set_option maxHeartbeats 4000000 in
theorem law26_awake_ok {w0 : World} {H0 : Hp} (hw : Holds w0 H0) (hG : Tryz.Gl w0) {r : Bool} (h : law26_awake = some r) :
    Con Tryz.prog 14 [] w0 H0 (fun H' v => v = (boo r)) := by
  refine Con.mk (N := 43) Tryz.func14 rfl rfl (by kernel_rfl) rfl ?_
  have S := St.start hw
  refine WP.seq ?_
  refine WP.region ?_
  refine WL.valw (R.as (v := (boo false)) rfl) ?_
  refine WL.nil ?_
  refine WP.seq ?_
  refine WP.region ?_
  refine WL.valw (R.build [(0, (str [97, 103, 101])), (1, (str [50]))] [(str [97, 103, 101]), (str [50])] bp53 zer53 rfl rfl) ?_
  refine W.bslice (α := GField) [(agg [(str [97, 103, 101]), (str [50])])] ([(⟨[97, 103, 101], [50]⟩ : GField)] : List GField) S el24 rfl rfl rfl (by decide) (Go.Eng.encS ⟨rfl, rfl⟩ enc0) ?_
  intro u1 w2 H3 hle4 R5 S
  refine WL.valw (R.build [(3, (str [79, 75])), (5, (str [120])), (4, u1)] [(.slice none 0 0), (.slice none 0 0), (.slice none 0 0), (str [79, 75]), u1, (str [120]), (int 0), (int 0)] bp26 zer26 rfl (by obtain ⟨_, _, rfl, _⟩ := R5; rfl)) ?_
  refine W.alloc [(.slice none 0 0), (.slice none 0 0), (.slice none 0 0), (str []), (.slice none 0 0), (str []), (int 0), (int 0)] S zer26 ?_
  intro b6 w7 S
  refine W.store (i := 0) [(.slice none 0 0), (.slice none 0 0), (.slice none 0 0), (str [79, 75]), u1, (str [120]), (int 0), (int 0)] S rfl rfl rfl lay26 rfl (AllOne.all (l := [(.slice none 0 0), (.slice none 0 0), (.slice none 0 0), (str [79, 75]), u1, (str [120]), (int 0), (int 0)]) (.cons rfl (.cons rfl (.cons rfl (.cons rfl (.cons (Sl.oneC R5) (.cons rfl (.cons rfl (.cons rfl .nil))))))))) (Nat.le_of_ble_eq_true rfl) rfl ?_
  intro w8 S
  refine WL.nil ?_
  refine WP.seq ?_
  refine WP.region ?_
  refine WL.valw (R.loadBN (i := 0) (vs := [(.slice none 0 0), (.slice none 0 0), (.slice none 0 0), (str [79, 75]), u1, (str [120]), (int 0), (int 0)]) S rfl rfl lay26 rfl rfl) ?_
  obtain ⟨r9, hr9, h⟩ := bindE h
  refine W.call S rfl (entry_Response_ok S.holds (hG.post S.post) (⟨([] : List (List Str)), ([] : List Str), ([] : List Str), [79, 75], ([(⟨[97, 103, 101], [50]⟩ : GField)] : List GField), [120], 0, 0⟩ : GEntry) 5 [112] Sl.nil Sl.nil Sl.nil R5 hr9) ?_
  rintro v10 w11 H12 hle13 S ⟨u14, rfl, R15⟩
  have R5 := Sl.mono R5 hle13
  refine W.alloc [(int 0), (int 0), (str []), (.slice none 0 0), (str [])] S zer30 ?_
  intro b16 w17 S
  refine W.store (i := 0) [(int r9.fMinor), (int r9.fStatus), (str r9.fReason), u14, (str r9.fBody)] S rfl rfl rfl lay30 rfl (AllOne.all (l := [(int r9.fMinor), (int r9.fStatus), (str r9.fReason), u14, (str r9.fBody)]) (.cons rfl (.cons rfl (.cons rfl (.cons (Sl.oneC R15) (.cons rfl .nil)))))) (Nat.le_of_ble_eq_true rfl) rfl ?_
  intro w18 S
  refine WL.nil ?_
  refine WP.seq ?_
  refine WP.region ?_
  refine WL.valw (R.build [(3, (str [79, 75]))] [(.slice none 0 0), (.slice none 0 0), (.slice none 0 0), (str [79, 75]), (.slice none 0 0), (str []), (int 0), (int 0)] bp26 zer26 rfl rfl) ?_
  obtain ⟨r19, hr19, h⟩ := bindE h
  refine W.call S rfl (entry_Size_ok S.holds (hG.post S.post) (⟨([] : List (List Str)), ([] : List Str), ([] : List Str), [79, 75], ([] : List GField), [], 0, 0⟩ : GEntry) Sl.nil Sl.nil Sl.nil Sl.nil hr19) ?_
  rintro v20 w21 H22 hle23 S rfl
  have R5 := Sl.mono R5 hle23
  have R15 := Sl.mono R15 hle23
  refine WL.valw (R.eql rfl rfl) ?_
  refine WL.valw (R.mv (v := (boo (r19 == 102))) rfl) ?_
  refine WL.grp 4 [12, 13, 14] 15 (boo ((r19 == 102) && (r9.fStatus == 200))) ?_ ?_
  · rcases boolE (r19 == 102) with hb24 | hb24
    · refine WL.gyes rfl rfl hb24 ?_
      refine WL.valw (R.fieldB rfl fld30_1) ?_
      refine WL.gyes rfl rfl hb24 ?_
      refine WL.valw (R.loadB (i := 0) (v := (int r9.fStatus)) S rfl rfl lay3 rfl) ?_
      refine WL.gyes rfl rfl hb24 ?_
      refine WL.valw (R.eql rfl rfl) ?_
      refine WL.valw (R.pickT rfl hb24 rfl) ?_
      exact WL.nil ⟨(andT hb24), (by repeat (first | refine agree_upd rfl ?_ | refine agree_upds' rfl ?_ | exact agree_refl)), rfl⟩
    · refine WL.gno rfl rfl hb24 ?_
      refine WL.gno rfl rfl hb24 ?_
      refine WL.gno rfl rfl hb24 ?_
      refine WL.valw (R.pickF rfl hb24 rfl) ?_
      exact WL.nil ⟨(andF hb24), (by repeat (first | refine agree_upd rfl ?_ | refine agree_upds' rfl ?_ | exact agree_refl)), rfl⟩
  · intro us
    refine WL.valw (R.mv (v := (boo ((r19 == 102) && (r9.fStatus == 200)))) rfl) ?_
    refine WL.grp 4 [17, 18, 19] 20 (boo (((r19 == 102) && (r9.fStatus == 200)) && (r9.fBody == [120]))) ?_ ?_
    · rcases boolE ((r19 == 102) && (r9.fStatus == 200)) with hb26 | hb26
      · refine WL.gyes rfl rfl hb26 ?_
        refine WL.valw (R.fieldB rfl fld30_4) ?_
        refine WL.gyes rfl rfl hb26 ?_
        refine WL.valw (R.loadB (i := 0) (v := (str r9.fBody)) S rfl rfl lay9 rfl) ?_
        refine WL.gyes rfl rfl hb26 ?_
        refine WL.valw (R.eqlS (a := r9.fBody) (b := [120]) rfl rfl) ?_
        refine WL.valw (R.pickT rfl hb26 rfl) ?_
        exact WL.nil ⟨(andT hb26), (by repeat (first | refine agree_upd rfl ?_ | refine agree_upds' rfl ?_ | exact agree_refl)), rfl⟩
      · refine WL.gno rfl rfl hb26 ?_
        refine WL.gno rfl rfl hb26 ?_
        refine WL.gno rfl rfl hb26 ?_
        refine WL.valw (R.pickF rfl hb26 rfl) ?_
        exact WL.nil ⟨(andF hb26), (by repeat (first | refine agree_upd rfl ?_ | refine agree_upds' rfl ?_ | exact agree_refl)), rfl⟩
    · intro us
      refine WL.valw (R.mv (v := (boo (((r19 == 102) && (r9.fStatus == 200)) && (r9.fBody == [120])))) rfl) ?_
      refine WL.grp 5 [22, 23, 24, 25] 26 (boo ((((r19 == 102) && (r9.fStatus == 200)) && (r9.fBody == [120])) && ((r9.fFields.length : Int) == 2))) ?_ ?_
      · rcases boolE (((r19 == 102) && (r9.fStatus == 200)) && (r9.fBody == [120])) with hb28 | hb28
        · refine WL.gyes rfl rfl hb28 ?_
          refine WL.valw (R.fieldB rfl fld30_3) ?_
          refine WL.gyes rfl rfl hb28 ?_
          refine WL.valw (R.loadB (i := 0) (v := u14) S rfl rfl lay24 rfl) ?_
          refine WL.gyes rfl rfl hb28 ?_
          refine WL.valw (R.lenL (α := GField) (xs := r9.fFields) (H := H22) R15 rfl Tryz.underlying24) ?_
          refine WL.gyes rfl rfl hb28 ?_
          refine WL.valw (R.eql rfl rfl) ?_
          refine WL.valw (R.pickT rfl hb28 rfl) ?_
          exact WL.nil ⟨(andT hb28), (by repeat (first | refine agree_upd rfl ?_ | refine agree_upds' rfl ?_ | exact agree_refl)), rfl⟩
        · refine WL.gno rfl rfl hb28 ?_
          refine WL.gno rfl rfl hb28 ?_
          refine WL.gno rfl rfl hb28 ?_
          refine WL.gno rfl rfl hb28 ?_
          refine WL.valw (R.pickF rfl hb28 rfl) ?_
          exact WL.nil ⟨(andF hb28), (by repeat (first | refine agree_upd rfl ?_ | refine agree_upds' rfl ?_ | exact agree_refl)), rfl⟩
      · intro us
        refine WL.valw (R.mv (v := (boo ((((r19 == 102) && (r9.fStatus == 200)) && (r9.fBody == [120])) && ((r9.fFields.length : Int) == 2)))) rfl) ?_
        obtain ⟨b36, hg31, h⟩ := bindE h
        refine WL.grp 7 [28, 29, 30, 31, 32, 33] 34 (boo b36) ?_ ?_
        · rcases boolE ((((r19 == 102) && (r9.fStatus == 200)) && (r9.fBody == [120])) && ((r9.fFields.length : Int) == 2)) with hb30 | hb30
          · replace hg31 := condT hg31 hb30
            refine WL.gyes rfl rfl hb30 ?_
            refine WL.valw (R.fieldB rfl fld30_3) ?_
            refine WL.gyes rfl rfl hb30 ?_
            refine WL.valw (R.loadB (i := 0) (v := u14) S rfl rfl lay24 rfl) ?_
            refine WL.gyes rfl rfl hb30 ?_
            obtain ⟨x32, hx32, hg31⟩ := bindE hg31
            refine W.idx (α := GField) R15 rfl rfl el24 hx32 ?_
            rintro a33 _ hA34 rfl
            refine WL.gyes rfl rfl hb30 ?_
            refine WL.valw (R.field rfl fld53_1) ?_
            have hA35 := At.add hA34 1 (by simp)
            refine WL.gyes rfl rfl hb30 ?_
            refine WL.valw (R.loadH (v := (str x32.fValue)) S rfl hA35 lay9 rfl) ?_
            refine WL.gyes rfl rfl hb30 ?_
            refine WL.valw (R.eqlS (a := x32.fValue) (b := [55]) rfl rfl) ?_
            refine WL.valw (R.pickT rfl hb30 rfl) ?_
            exact WL.nil ⟨(congrArg boo (Option.some.inj hg31)), (by repeat (first | refine agree_upd rfl ?_ | refine agree_upds' rfl ?_ | exact agree_refl)), rfl⟩
          · replace hg31 := condF hg31 hb30
            refine WL.gno rfl rfl hb30 ?_
            refine WL.gno rfl rfl hb30 ?_
            refine WL.gno rfl rfl hb30 ?_
            refine WL.gno rfl rfl hb30 ?_
            refine WL.gno rfl rfl hb30 ?_
            refine WL.gno rfl rfl hb30 ?_
            refine WL.valw (R.pickF rfl hb30 rfl) ?_
            exact WL.nil ⟨(congrArg boo (Option.some.inj hg31)), (by repeat (first | refine agree_upd rfl ?_ | refine agree_upds' rfl ?_ | exact agree_refl)), rfl⟩
        · intro us
          refine WL.valw (R.mv (v := (boo b36)) rfl) ?_
          obtain ⟨b43, hg38, h⟩ := bindE h
          refine WL.grp 7 [36, 37, 38, 39, 40, 41] 42 (boo b43) ?_ ?_
          · rcases boolE b36 with hb37 | hb37
            · replace hg38 := condT hg38 hb37
              refine WL.gyes rfl rfl hb37 ?_
              refine WL.valw (R.fieldB rfl fld30_3) ?_
              refine WL.gyes rfl rfl hb37 ?_
              refine WL.valw (R.loadB (i := 0) (v := u14) S rfl rfl lay24 rfl) ?_
              refine WL.gyes rfl rfl hb37 ?_
              obtain ⟨x39, hx39, hg38⟩ := bindE hg38
              refine W.idx (α := GField) R15 rfl rfl el24 hx39 ?_
              rintro a40 _ hA41 rfl
              refine WL.gyes rfl rfl hb37 ?_
              refine WL.valw (R.field rfl fld53_1) ?_
              have hA42 := At.add hA41 1 (by simp)
              refine WL.gyes rfl rfl hb37 ?_
              refine WL.valw (R.loadH (v := (str x39.fValue)) S rfl hA42 lay9 rfl) ?_
              refine WL.gyes rfl rfl hb37 ?_
              refine WL.valw (R.eqlS (a := x39.fValue) (b := [49, 46, 49, 32, 112]) rfl rfl) ?_
              refine WL.valw (R.pickT rfl hb37 rfl) ?_
              exact WL.nil ⟨(congrArg boo (Option.some.inj hg38)), (by repeat (first | refine agree_upd rfl ?_ | refine agree_upds' rfl ?_ | exact agree_refl)), rfl⟩
            · replace hg38 := condF hg38 hb37
              refine WL.gno rfl rfl hb37 ?_
              refine WL.gno rfl rfl hb37 ?_
              refine WL.gno rfl rfl hb37 ?_
              refine WL.gno rfl rfl hb37 ?_
              refine WL.gno rfl rfl hb37 ?_
              refine WL.gno rfl rfl hb37 ?_
              refine WL.valw (R.pickF rfl hb37 rfl) ?_
              exact WL.nil ⟨(congrArg boo (Option.some.inj hg38)), (by repeat (first | refine agree_upd rfl ?_ | refine agree_upds' rfl ?_ | exact agree_refl)), rfl⟩
          · intro us
            refine WL.valw (R.as (v := (boo b43)) rfl) ?_
            refine WL.nil ?_
            obtain rfl := Option.some.inj h
            refine WP.ret (Out.one rfl S rfl ?_)
            exact rfl
set_option maxRecDepth 10000 in
set_option maxHeartbeats 4000000 in
theorem ref01_NextLine_ok {w0 : World} {H0 : Hp} (hw : Holds w0 H0) (hG : Tryz.Gl w0) (p_s : Str) (p_at : Int) {r : (Str × Int × Int)} (h : ref01_NextLine p_s p_at = some r) :
    Con Tryz.prog 73 [(str p_s), (int p_at)] w0 H0 (fun H' v => v = (.tuple ⟨[(str r.1), (int r.2.1), (int r.2.2)]⟩)) := by
  refine Con.mk (N := 60) Tryz.func73 rfl rfl (by kernel_rfl) rfl ?_
  have S := St.start hw
  refine WP.seq ?_
  refine WP.region ?_
  refine WL.valw (R.as (v := (str [])) rfl) ?_
  refine WL.valw (R.as (v := (int 0)) rfl) ?_
  refine WL.valw (R.as (v := (int 0)) rfl) ?_
  refine WL.nil ?_
  refine WP.seq ?_
  refine WP.region ?_
  refine WL.valw (R.mv (v := (int p_at)) rfl) ?_
  refine WL.valw (R.as (v := (int p_at)) rfl) ?_
  refine WL.nil ?_
  refine WP.seq ?_
  obtain ⟨n_9, hr15, h⟩ := bindE h
  refine WP.cut (fun f w => ∃ (H6 : Hp), f 0 = (str p_s) ∧ f 1 = (int p_at) ∧ f 7 = (int n_9) ∧ St w0 H0 w H6 []) ?_ ?_
  · refine WP.block ?_
    refine WP.loopM (ref01_NextLine_L0 p_s) (fun s f w => match s with | n_4 => ∃ (H1 : Hp), f 0 = (str p_s) ∧ f 1 = (int p_at) ∧ f 7 = (int n_4) ∧ St w0 H0 w H1 []) p_at n_9 hr15 ?_ ?_
    · exact ⟨H0, rfl, rfl, rfl, S⟩
    · intro n_4 f w hI y11 hy12 hy13
      obtain ⟨H1, h2, h3, h5, S⟩ := hI
      refine WP.seq ?_
      refine WP.seq ?_
      refine WP.region ?_
      refine WL.valw (R.mv (v := (int n_4)) h5) ?_
      refine WL.valw (R.mv (v := (str p_s)) h2) ?_
      refine WL.valw (R.lenS (a := p_s) rfl Tryz.underlying9) ?_
      refine WL.valw (R.lss rfl rfl) ?_
      refine WL.valw (R.mv (v := (boo (decide (n_4 < (p_s.length : Int))))) rfl) ?_
      obtain ⟨b19, hg17, hy12⟩ := bindE hy12
      refine WL.grp 5 [14, 15, 16, 17] 18 (boo b19) ?_ ?_
      · rcases boolE (decide (n_4 < (p_s.length : Int))) with hb16 | hb16
        · replace hg17 := condT hg17 hb16
          refine WL.gyes rfl rfl hb16 ?_
          refine WL.valw (R.mv (v := (str p_s)) h2) ?_
          refine WL.gyes rfl rfl hb16 ?_
          refine WL.valw (R.mv (v := (int n_4)) h5) ?_
          refine WL.gyes rfl rfl hb16 ?_
          obtain ⟨c18, hc18, hg17⟩ := bindE hg17
          refine WL.valw (R.idxS rfl rfl Tryz.underlying9 hc18) ?_
          refine WL.gyes rfl rfl hb16 ?_
          refine WL.valw (R.neq8 (a := c18) (b := 13) rfl rfl) ?_
          refine WL.valw (R.pickT rfl hb16 rfl) ?_
          exact WL.nil ⟨(congrArg boo (Option.some.inj hg17)), (by repeat (first | refine agree_upd rfl ?_ | refine agree_upds' rfl ?_ | exact agree_refl)), rfl⟩
        · replace hg17 := condF hg17 hb16
          refine WL.gno rfl rfl hb16 ?_
          refine WL.gno rfl rfl hb16 ?_
          refine WL.gno rfl rfl hb16 ?_
          refine WL.gno rfl rfl hb16 ?_
          refine WL.valw (R.pickF rfl hb16 rfl) ?_
          exact WL.nil ⟨(congrArg boo (Option.some.inj hg17)), (by repeat (first | refine agree_upd rfl ?_ | refine agree_upds' rfl ?_ | exact agree_refl)), rfl⟩
      · intro us
        refine WL.valw (R.mv (v := (boo b19)) rfl) ?_
        obtain ⟨b23, hg21, hy12⟩ := bindE hy12
        refine WL.grp 5 [20, 21, 22, 23] 24 (boo b23) ?_ ?_
        · rcases boolE b19 with hb20 | hb20
          · replace hg21 := condT hg21 hb20
            refine WL.gyes rfl rfl hb20 ?_
            refine WL.valw (R.mv (v := (str p_s)) h2) ?_
            refine WL.gyes rfl rfl hb20 ?_
            refine WL.valw (R.mv (v := (int n_4)) h5) ?_
            refine WL.gyes rfl rfl hb20 ?_
            obtain ⟨c22, hc22, hg21⟩ := bindE hg21
            refine WL.valw (R.idxS rfl rfl Tryz.underlying9 hc22) ?_
            refine WL.gyes rfl rfl hb20 ?_
            refine WL.valw (R.neq8 (a := c22) (b := 10) rfl rfl) ?_
            refine WL.valw (R.pickT rfl hb20 rfl) ?_
            exact WL.nil ⟨(congrArg boo (Option.some.inj hg21)), (by repeat (first | refine agree_upd rfl ?_ | refine agree_upds' rfl ?_ | exact agree_refl)), rfl⟩
          · replace hg21 := condF hg21 hb20
            refine WL.gno rfl rfl hb20 ?_
            refine WL.gno rfl rfl hb20 ?_
            refine WL.gno rfl rfl hb20 ?_
            refine WL.gno rfl rfl hb20 ?_
            refine WL.valw (R.pickF rfl hb20 rfl) ?_
            exact WL.nil ⟨(congrArg boo (Option.some.inj hg21)), (by repeat (first | refine agree_upd rfl ?_ | refine agree_upds' rfl ?_ | exact agree_refl)), rfl⟩
        · intro us
          refine WL.nil ?_
          rcases condE hy12 with ⟨hc24, hy12⟩ | ⟨hc24, hy12⟩
          · refine WP.condT rfl hc24 ?_
            refine WP.skip ?_
            refine WP.block ?_
            refine WP.region ?_
            refine WL.valw (R.mv (v := (int n_4)) h5) ?_
            refine WL.valw (R.add rfl rfl) ?_
            refine WL.valw (R.as (v := (int (wr (n_4 + 1)))) rfl) ?_
            refine WL.nil ?_
            obtain rfl := Option.some.inj hy12
            exact ⟨rfl, ⟨H1, h2, h3, rfl, S⟩⟩
          · refine WP.condF rfl hc24 ?_
            refine WP.exit ?_
            obtain rfl := Option.some.inj hy12
            obtain rfl := hy13
            exact ⟨H1, h2, h3, h5, S⟩
  · rintro f w ⟨H6, h7, h8, h10, S⟩
    refine WP.seq ?_
    refine WP.block ?_
    refine WP.seq ?_
    refine WP.region ?_
    refine WL.valw (R.mv (v := (int n_9)) h10) ?_
    refine WL.valw (R.mv (v := (int p_at)) h8) ?_
    refine WL.valw (R.sub rfl rfl) ?_
    refine WL.valw (R.gtr rfl rfl) ?_
    refine WL.valw (R.as (v := (boo (decide (2000 < (wr (n_9 - p_at)))))) rfl) ?_
    refine WL.nil ?_
    rcases condE h with ⟨hc25, h⟩ | ⟨hc25, h⟩
    · refine WP.condT rfl hc25 ?_
      refine WP.seq ?_
      refine WP.region ?_
      refine WL.valw (R.as (v := (str [])) rfl) ?_
      refine WL.valw (R.as (v := (int 0)) rfl) ?_
      refine WL.valw (R.as (v := (int 4)) rfl) ?_
      refine WL.nil ?_
      obtain rfl := Option.some.inj h
      refine WP.ret (Out.three rfl S rfl rfl rfl ?_)
      exact rfl
    · refine WP.condF rfl hc25 ?_
      refine WP.seq ?_
      refine WP.region ?_
      refine WL.valw (R.mv (v := (int n_9)) h10) ?_
      refine WL.valw (R.mv (v := (str p_s)) h7) ?_
      refine WL.valw (R.lenS (a := p_s) rfl Tryz.underlying9) ?_
      refine WL.valw (R.eql rfl rfl) ?_
      refine WL.valw (R.as (v := (boo (n_9 == (p_s.length : Int)))) rfl) ?_
      refine WL.nil ?_
      rcases condE h with ⟨hc26, h⟩ | ⟨hc26, h⟩
      · refine WP.condT rfl hc26 ?_
        refine WP.seq ?_
        refine WP.region ?_
        refine WL.valw (R.as (v := (str [])) rfl) ?_
        refine WL.valw (R.as (v := (int 0)) rfl) ?_
        refine WL.valw (R.as (v := (int 2)) rfl) ?_
        refine WL.nil ?_
        obtain rfl := Option.some.inj h
        refine WP.ret (Out.three rfl S rfl rfl rfl ?_)
        exact rfl
      · refine WP.condF rfl hc26 ?_
        refine WP.seq ?_
        refine WP.region ?_
        refine WL.valw (R.mv (v := (str p_s)) h7) ?_
        refine WL.valw (R.mv (v := (int n_9)) h10) ?_
        obtain ⟨c27, hc27, h⟩ := bindE h
        refine WL.valw (R.idxS rfl rfl Tryz.underlying9 hc27) ?_
        refine WL.valw (R.eql8 (a := c27) (b := 10) rfl rfl) ?_
        refine WL.valw (R.as (v := (boo (c27 == 10))) rfl) ?_
        refine WL.nil ?_
        rcases condE h with ⟨hc28, h⟩ | ⟨hc28, h⟩
        · refine WP.condT rfl hc28 ?_
          refine WP.seq ?_
          refine WP.region ?_
          refine WL.valw (R.as (v := (str [])) rfl) ?_
          refine WL.valw (R.as (v := (int 0)) rfl) ?_
          refine WL.valw (R.as (v := (int 1)) rfl) ?_
          refine WL.nil ?_
          obtain rfl := Option.some.inj h
          refine WP.ret (Out.three rfl S rfl rfl rfl ?_)
          exact rfl
        · refine WP.condF rfl hc28 ?_
          refine WP.seq ?_
          refine WP.region ?_
          refine WL.valw (R.mv (v := (int n_9)) h10) ?_
          refine WL.valw (R.add rfl rfl) ?_
          refine WL.valw (R.mv (v := (str p_s)) h7) ?_
          refine WL.valw (R.lenS (a := p_s) rfl Tryz.underlying9) ?_
          refine WL.valw (R.eql rfl rfl) ?_
          refine WL.valw (R.as (v := (boo ((wr (n_9 + 1)) == (p_s.length : Int)))) rfl) ?_
          refine WL.nil ?_
          rcases condE h with ⟨hc29, h⟩ | ⟨hc29, h⟩
          · refine WP.condT rfl hc29 ?_
            refine WP.seq ?_
            refine WP.region ?_
            refine WL.valw (R.as (v := (str [])) rfl) ?_
            refine WL.valw (R.as (v := (int 0)) rfl) ?_
            refine WL.valw (R.as (v := (int 2)) rfl) ?_
            refine WL.nil ?_
            obtain rfl := Option.some.inj h
            refine WP.ret (Out.three rfl S rfl rfl rfl ?_)
            exact rfl
          · refine WP.condF rfl hc29 ?_
            refine WP.seq ?_
            refine WP.region ?_
            refine WL.valw (R.mv (v := (str p_s)) h7) ?_
            refine WL.valw (R.mv (v := (int n_9)) h10) ?_
            refine WL.valw (R.add rfl rfl) ?_
            obtain ⟨c30, hc30, h⟩ := bindE h
            refine WL.valw (R.idxS rfl rfl Tryz.underlying9 hc30) ?_
            refine WL.valw (R.neq8 (a := c30) (b := 10) rfl rfl) ?_
            refine WL.valw (R.as (v := (boo (c30 != 10))) rfl) ?_
            refine WL.nil ?_
            rcases condE h with ⟨hc31, h⟩ | ⟨hc31, h⟩
            · refine WP.condT rfl hc31 ?_
              refine WP.seq ?_
              refine WP.region ?_
              refine WL.valw (R.as (v := (str [])) rfl) ?_
              refine WL.valw (R.as (v := (int 0)) rfl) ?_
              refine WL.valw (R.as (v := (int 1)) rfl) ?_
              refine WL.nil ?_
              obtain rfl := Option.some.inj h
              refine WP.ret (Out.three rfl S rfl rfl rfl ?_)
              exact rfl
            · refine WP.condF rfl hc31 ?_
              refine WP.skip ?_
              refine WP.seq ?_
              refine WP.region ?_
              refine WL.valw (R.mv (v := (str p_s)) h7) ?_
              refine WL.valw (R.mv (v := (int p_at)) h8) ?_
              refine WL.valw (R.mv (v := (int n_9)) h10) ?_
              obtain ⟨s32, hs32, h⟩ := bindE h
              refine WL.valw (R.subS rfl rfl rfl Tryz.underlying9 hs32) ?_
              refine WL.valw (R.mv (v := (int n_9)) h10) ?_
              refine WL.valw (R.add rfl rfl) ?_
              refine WL.valw (R.as (v := (str s32)) rfl) ?_
              refine WL.valw (R.as (v := (int (wr (n_9 + 2)))) rfl) ?_
              refine WL.valw (R.as (v := (int 0)) rfl) ?_
              refine WL.nil ?_
              obtain rfl := Option.some.inj h
              refine WP.ret (Out.three rfl S rfl rfl rfl ?_)
              exact rfl
end Go.Proofs
