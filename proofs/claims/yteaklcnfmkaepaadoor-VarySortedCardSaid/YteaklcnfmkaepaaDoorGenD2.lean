/- A part of the proof of laws of the seat: written by program over the translation. -/
import Derived.Test.YteaklcnfmkaepaaDoorGenD1
namespace Go.Proofs
open Go.Eng Go.Eng.Pure
set_option linter.unusedVariables false
set_option maxRecDepth 10000 in
set_option maxHeartbeats 4000000 in
theorem accept_Kind_ok {w0 : World} {H0 : Hp} (hw : Holds w0 H0) (p_name : Str) {r : Int} (h : accept_Kind p_name = some r) :
    Con Tryd.prog 36 [(str p_name)] w0 H0 (fun H' v => v = (int r)) := by
  refine Con.mk (N := 13) Tryd.func36 rfl rfl (by kernel_rfl) rfl ?_
  have S := St.start hw
  refine WP.seq ?_
  refine WP.region ?_
  refine WL.valw (R.as (v := (int 0)) rfl) ?_
  refine WL.nil ?_
  refine WP.seq ?_
  refine WP.seq ?_
  refine WP.region ?_
  refine WL.valw (R.as (v := (int 1)) rfl) ?_
  refine WL.nil ?_
  refine WP.block ?_
  refine WP.loopRd 5 ?_
  refine RD.succ ?_
  refine WP.seq ?_
  refine WP.seq ?_
  refine WP.region ?_
  refine WL.valw (R.mv (v := (int 1)) rfl) ?_
  refine WL.valw (v := (boo true)) (R.ofEq (R.leq rfl rfl) rfl) ?_
  refine WL.nil ?_
  refine WP.condT (b := true) rfl rfl ?_
  refine WP.skip ?_
  refine WP.seq ?_
  refine WP.block ?_
  refine WP.seq ?_
  refine WP.region ?_
  refine WL.valw (R.mv (v := (str p_name)) rfl) ?_
  refine WL.valw (R.mv (v := (int 1)) rfl) ?_
  obtain ⟨r1, hr1, h⟩ := bindE h
  refine W.call S rfl (accept_Name_ok S.holds 1 hr1) ?_
  rintro v2 w3 H4 hle5 S rfl
  obtain ⟨r6, hr6, h⟩ := bindE h
  refine W.call S rfl (ascii_Fold_ok S.holds p_name r1 hr6) ?_
  rintro v7 w8 H9 hle10 S rfl
  refine WL.nil ?_
  rcases condE h with ⟨hc11, h⟩ | ⟨hc11, h⟩
  · refine WP.condT rfl hc11 ?_
    refine WP.seq ?_
    refine WP.region ?_
    refine WL.valw (R.mv (v := (int 1)) rfl) ?_
    refine WL.valw (R.as (v := (int 1)) rfl) ?_
    refine WL.nil ?_
    obtain rfl := Option.some.inj h
    refine WP.ret (Out.one rfl S rfl ?_)
    exact rfl
  · refine WP.condF rfl hc11 ?_
    refine WP.skip ?_
    refine WP.region ?_
    refine WL.valw (R.mv (v := (int 1)) rfl) ?_
    refine WL.valw (v := (int 2)) (R.ofEq (R.add rfl rfl) rfl) ?_
    refine WL.valw (R.as (v := (int 2)) rfl) ?_
    refine WL.nil ?_
    refine RD.succ ?_
    refine WP.seq ?_
    refine WP.seq ?_
    refine WP.region ?_
    refine WL.valw (R.mv (v := (int 2)) rfl) ?_
    refine WL.valw (v := (boo true)) (R.ofEq (R.leq rfl rfl) rfl) ?_
    refine WL.nil ?_
    refine WP.condT (b := true) rfl rfl ?_
    refine WP.skip ?_
    refine WP.seq ?_
    refine WP.block ?_
    refine WP.seq ?_
    refine WP.region ?_
    refine WL.valw (R.mv (v := (str p_name)) rfl) ?_
    refine WL.valw (R.mv (v := (int 2)) rfl) ?_
    obtain ⟨r12, hr12, h⟩ := bindE h
    refine W.call S rfl (accept_Name_ok S.holds 2 hr12) ?_
    rintro v13 w14 H15 hle16 S rfl
    obtain ⟨r17, hr17, h⟩ := bindE h
    refine W.call S rfl (ascii_Fold_ok S.holds p_name r12 hr17) ?_
    rintro v18 w19 H20 hle21 S rfl
    refine WL.nil ?_
    rcases condE h with ⟨hc22, h⟩ | ⟨hc22, h⟩
    · refine WP.condT rfl hc22 ?_
      refine WP.seq ?_
      refine WP.region ?_
      refine WL.valw (R.mv (v := (int 2)) rfl) ?_
      refine WL.valw (R.as (v := (int 2)) rfl) ?_
      refine WL.nil ?_
      obtain rfl := Option.some.inj h
      refine WP.ret (Out.one rfl S rfl ?_)
      exact rfl
    · refine WP.condF rfl hc22 ?_
      refine WP.skip ?_
      refine WP.region ?_
      refine WL.valw (R.mv (v := (int 2)) rfl) ?_
      refine WL.valw (v := (int 3)) (R.ofEq (R.add rfl rfl) rfl) ?_
      refine WL.valw (R.as (v := (int 3)) rfl) ?_
      refine WL.nil ?_
      refine RD.succ ?_
      refine WP.seq ?_
      refine WP.seq ?_
      refine WP.region ?_
      refine WL.valw (R.mv (v := (int 3)) rfl) ?_
      refine WL.valw (v := (boo true)) (R.ofEq (R.leq rfl rfl) rfl) ?_
      refine WL.nil ?_
      refine WP.condT (b := true) rfl rfl ?_
      refine WP.skip ?_
      refine WP.seq ?_
      refine WP.block ?_
      refine WP.seq ?_
      refine WP.region ?_
      refine WL.valw (R.mv (v := (str p_name)) rfl) ?_
      refine WL.valw (R.mv (v := (int 3)) rfl) ?_
      obtain ⟨r23, hr23, h⟩ := bindE h
      refine W.call S rfl (accept_Name_ok S.holds 3 hr23) ?_
      rintro v24 w25 H26 hle27 S rfl
      obtain ⟨r28, hr28, h⟩ := bindE h
      refine W.call S rfl (ascii_Fold_ok S.holds p_name r23 hr28) ?_
      rintro v29 w30 H31 hle32 S rfl
      refine WL.nil ?_
      rcases condE h with ⟨hc33, h⟩ | ⟨hc33, h⟩
      · refine WP.condT rfl hc33 ?_
        refine WP.seq ?_
        refine WP.region ?_
        refine WL.valw (R.mv (v := (int 3)) rfl) ?_
        refine WL.valw (R.as (v := (int 3)) rfl) ?_
        refine WL.nil ?_
        obtain rfl := Option.some.inj h
        refine WP.ret (Out.one rfl S rfl ?_)
        exact rfl
      · refine WP.condF rfl hc33 ?_
        refine WP.skip ?_
        refine WP.region ?_
        refine WL.valw (R.mv (v := (int 3)) rfl) ?_
        refine WL.valw (v := (int 4)) (R.ofEq (R.add rfl rfl) rfl) ?_
        refine WL.valw (R.as (v := (int 4)) rfl) ?_
        refine WL.nil ?_
        refine RD.succ ?_
        refine WP.seq ?_
        refine WP.seq ?_
        refine WP.region ?_
        refine WL.valw (R.mv (v := (int 4)) rfl) ?_
        refine WL.valw (v := (boo true)) (R.ofEq (R.leq rfl rfl) rfl) ?_
        refine WL.nil ?_
        refine WP.condT (b := true) rfl rfl ?_
        refine WP.skip ?_
        refine WP.seq ?_
        refine WP.block ?_
        refine WP.seq ?_
        refine WP.region ?_
        refine WL.valw (R.mv (v := (str p_name)) rfl) ?_
        refine WL.valw (R.mv (v := (int 4)) rfl) ?_
        obtain ⟨r34, hr34, h⟩ := bindE h
        refine W.call S rfl (accept_Name_ok S.holds 4 hr34) ?_
        rintro v35 w36 H37 hle38 S rfl
        obtain ⟨r39, hr39, h⟩ := bindE h
        refine W.call S rfl (ascii_Fold_ok S.holds p_name r34 hr39) ?_
        rintro v40 w41 H42 hle43 S rfl
        refine WL.nil ?_
        rcases condE h with ⟨hc44, h⟩ | ⟨hc44, h⟩
        · refine WP.condT rfl hc44 ?_
          refine WP.seq ?_
          refine WP.region ?_
          refine WL.valw (R.mv (v := (int 4)) rfl) ?_
          refine WL.valw (R.as (v := (int 4)) rfl) ?_
          refine WL.nil ?_
          obtain rfl := Option.some.inj h
          refine WP.ret (Out.one rfl S rfl ?_)
          exact rfl
        · refine WP.condF rfl hc44 ?_
          refine WP.skip ?_
          refine WP.region ?_
          refine WL.valw (R.mv (v := (int 4)) rfl) ?_
          refine WL.valw (v := (int 5)) (R.ofEq (R.add rfl rfl) rfl) ?_
          refine WL.valw (R.as (v := (int 5)) rfl) ?_
          refine WL.nil ?_
          refine RD.succ ?_
          refine WP.seq ?_
          refine WP.seq ?_
          refine WP.region ?_
          refine WL.valw (R.mv (v := (int 5)) rfl) ?_
          refine WL.valw (v := (boo false)) (R.ofEq (R.leq rfl rfl) rfl) ?_
          refine WL.nil ?_
          refine WP.condF (b := false) rfl rfl ?_
          refine WP.exit ?_
          refine WP.seq ?_
          refine WP.region ?_
          refine WL.valw (R.as (v := (int 0)) rfl) ?_
          refine WL.nil ?_
          obtain rfl := Option.some.inj h
          refine WP.ret (Out.one rfl S rfl ?_)
          exact rfl
set_option maxRecDepth 10000 in
set_option maxHeartbeats 4000000 in
theorem list_Join_ok {w0 : World} {H0 : Hp} (hw : Holds w0 H0) (p_members : (List Str)) {vp_members : Value} (Rp_members : Sl (α := Str) H0 vp_members p_members) {r : Str} (h : list_Join p_members = some r) :
    Con Tryd.prog 38 [vp_members] w0 H0 (fun H' v => v = (str r)) := by
  refine Con.mk (N := 5) Tryd.func38 rfl rfl (by kernel_rfl) rfl ?_
  have S := St.start hw
  refine WP.seq ?_
  refine WP.region ?_
  refine WL.valw (R.as (v := (str [])) rfl) ?_
  refine WL.nil ?_
  refine WP.seq ?_
  refine WP.region ?_
  refine WL.valw (R.mv (v := vp_members) rfl) ?_
  obtain ⟨r1, hr1, h⟩ := bindE h
  refine W.call S rfl (strings_Join_ok S.holds p_members [44, 32] Rp_members hr1) ?_
  rintro v2 w3 H4 hle5 S rfl
  have Rp_members := Sl.mono Rp_members hle5
  refine WL.valw (R.as (v := (str r1)) rfl) ?_
  refine WL.nil ?_
  obtain rfl := Option.some.inj h
  refine WP.ret (Out.one rfl S rfl ?_)
  exact rfl
set_option maxRecDepth 10000 in
set_option maxHeartbeats 4000000 in
theorem vary_Value_ok {w0 : World} {H0 : Hp} (hw : Holds w0 H0) (p_name : Str) (p_l : (List GField)) {vp_l : Value} (Rp_l : Sl (α := GField) H0 vp_l p_l) {r : Str} (h : vary_Value p_name p_l = some r) :
    Con Tryd.prog 10 [(str p_name), vp_l] w0 H0 (fun H' v => v = (str r)) := by
  refine Con.mk (N := 30) Tryd.func10 rfl rfl (by kernel_rfl) rfl ?_
  have S := St.start hw
  refine WP.seq ?_
  refine WP.region ?_
  refine WL.valw (R.as (v := (str [])) rfl) ?_
  refine WL.nil ?_
  refine WP.seq ?_
  refine WP.seq ?_
  refine WP.region ?_
  refine WL.valw (R.mv (v := vp_l) rfl) ?_
  refine WL.valw (R.mv (v := (str p_name)) rfl) ?_
  obtain ⟨r1, hr1, h⟩ := bindE h
  refine W.call S rfl (fieldline_Has_ok S.holds p_l p_name Rp_l hr1) ?_
  rintro v2 w3 H4 hle5 S rfl
  have Rp_l := Sl.mono Rp_l hle5
  refine WL.valw (R.not rfl) ?_
  refine WL.nil ?_
  rcases condE h with ⟨hc6, h⟩ | ⟨hc6, h⟩
  · refine WP.condT rfl hc6 ?_
    refine WP.seq ?_
    refine WP.region ?_
    refine WL.valw (R.as (v := (str [])) rfl) ?_
    refine WL.nil ?_
    obtain rfl := Option.some.inj h
    refine WP.ret (Out.one rfl S rfl ?_)
    exact rfl
  · refine WP.condF rfl hc6 ?_
    refine WP.skip ?_
    refine WP.seq ?_
    refine WP.seq ?_
    refine WP.region ?_
    refine WL.valw (R.mv (v := vp_l) rfl) ?_
    refine WL.valw (R.mv (v := (str p_name)) rfl) ?_
    obtain ⟨r7, hr7, h⟩ := bindE h
    refine W.call S rfl (list_All_ok S.holds p_l p_name Rp_l hr7) ?_
    rintro v8 w9 H10 hle11 S R12
    have Rp_l := Sl.mono Rp_l hle11
    refine WL.valw (R.as (v := v8) rfl) ?_
    refine WL.nil ?_
    refine WP.seq ?_
    refine WP.region ?_
    refine WL.valw (R.mv (v := (str p_name)) rfl) ?_
    obtain ⟨r13, hr13, h⟩ := bindE h
    refine W.call S rfl (accept_Kind_ok S.holds p_name hr13) ?_
    rintro v14 w15 H16 hle17 S rfl
    have Rp_l := Sl.mono Rp_l hle17
    have R12 := Sl.mono R12 hle17
    refine WL.valw (R.neq rfl rfl) ?_
    refine WL.valw (R.mv (v := (boo (r13 != 0))) rfl) ?_
    refine WL.grp 4 [17, 18, 19] 20 (boo ((r13 != 0) && (decide ((r7.length : Int) < 64)))) ?_ ?_
    · rcases boolE (r13 != 0) with hb18 | hb18
      · refine WL.gyes rfl rfl hb18 ?_
        refine WL.valw (R.mv (v := v8) rfl) ?_
        refine WL.gyes rfl rfl hb18 ?_
        refine WL.valw (R.lenL (α := Str) (xs := r7) (H := H16) R12 rfl Tryd.underlying22) ?_
        refine WL.gyes rfl rfl hb18 ?_
        refine WL.valw (R.lss rfl rfl) ?_
        refine WL.valw (R.pickT rfl hb18 rfl) ?_
        exact WL.nil ⟨(andT hb18), (by repeat (first | refine agree_upd rfl ?_ | refine agree_upds' rfl ?_ | exact agree_refl)), rfl⟩
      · refine WL.gno rfl rfl hb18 ?_
        refine WL.gno rfl rfl hb18 ?_
        refine WL.gno rfl rfl hb18 ?_
        refine WL.valw (R.pickF rfl hb18 rfl) ?_
        exact WL.nil ⟨(andF hb18), (by repeat (first | refine agree_upd rfl ?_ | refine agree_upds' rfl ?_ | exact agree_refl)), rfl⟩
    · intro us
      refine WL.nil ?_
      rcases condE h with ⟨hc20, h⟩ | ⟨hc20, h⟩
      · refine WP.condT rfl hc20 ?_
        refine WP.seq ?_
        refine WP.region ?_
        refine WL.valw (R.mv (v := v8) rfl) ?_
        obtain ⟨r21, hr21, h⟩ := bindE h
        refine W.call S rfl (list_Join_ok S.holds r7 R12 hr21) ?_
        rintro v22 w23 H24 hle25 S rfl
        have Rp_l := Sl.mono Rp_l hle25
        have R12 := Sl.mono R12 hle25
        obtain ⟨r26, hr26, h⟩ := bindE h
        refine W.call S rfl (ascii_Lower_ok S.holds r21 hr26) ?_
        rintro v27 w28 H29 hle30 S rfl
        have Rp_l := Sl.mono Rp_l hle30
        have R12 := Sl.mono R12 hle30
        obtain ⟨s31, hs31, h⟩ := bindE h
        refine WL.valw (R.cat (a := [61]) (b := r26) rfl rfl hs31) ?_
        refine WL.valw (R.as (v := (str s31)) rfl) ?_
        refine WL.nil ?_
        obtain rfl := Option.some.inj h
        refine WP.ret (Out.one rfl S rfl ?_)
        exact rfl
      · refine WP.condF rfl hc20 ?_
        refine WP.skip ?_
        refine WP.seq ?_
        refine WP.region ?_
        refine WL.valw (R.mv (v := vp_l) rfl) ?_
        refine WL.valw (R.mv (v := (str p_name)) rfl) ?_
        obtain ⟨r32, hr32, h⟩ := bindE h
        refine W.call S rfl (fieldline_Get_ok S.holds p_l p_name Rp_l hr32) ?_
        rintro v33 w34 H35 hle36 S R37
        have Rp_l := Sl.mono Rp_l hle36
        have R12 := Sl.mono R12 hle36
        obtain ⟨r38, hr38, h⟩ := bindE h
        refine W.call S rfl (strings_Join_ok S.holds r32 [44, 32] R37 hr38) ?_
        rintro v39 w40 H41 hle42 S rfl
        have Rp_l := Sl.mono Rp_l hle42
        have R12 := Sl.mono R12 hle42
        have R37 := Sl.mono R37 hle42
        obtain ⟨s43, hs43, h⟩ := bindE h
        refine WL.valw (R.cat (a := [61]) (b := r38) rfl rfl hs43) ?_
        refine WL.valw (R.as (v := (str s43)) rfl) ?_
        refine WL.nil ?_
        obtain rfl := Option.some.inj h
        refine WP.ret (Out.one rfl S rfl ?_)
        exact rfl
set_option maxRecDepth 10000 in
set_option maxHeartbeats 4000000 in
theorem ref01_Lower_ok {w0 : World} {H0 : Hp} (hw : Holds w0 H0) (p_s : Str) {r : Str} (h : ref01_Lower p_s = some r) :
    Con Tryd.prog 21 [(str p_s)] w0 H0 (fun H' v => v = (str r)) := by
  refine Con.mk (N := 33) Tryd.func21 rfl rfl (by kernel_rfl) rfl ?_
  have S := St.start hw
  refine WP.seq ?_
  refine WP.region ?_
  refine WL.valw (R.as (v := (str [])) rfl) ?_
  refine WL.nil ?_
  refine WP.seq ?_
  refine WP.region ?_
  refine WL.valw (R.mv (v := (str p_s)) rfl) ?_
  refine W.bytes (s := p_s) S rfl Tryd.underlying9 Tryd.underlying56 Tryd.underlying5 ?_
  intro b1 c2 w3 hc2 S
  refine WL.valw (R.as (v := (.slice (some ⟨b1, 0, none⟩) p_s.length c2)) rfl) ?_
  refine WL.nil ?_
  refine WP.seq ?_
  refine WP.seq ?_
  refine WP.region ?_
  refine WL.valw (R.as (v := (int 0)) rfl) ?_
  refine WL.nil ?_
  obtain ⟨m12, hr18, h⟩ := bindE h
  refine WP.cut (fun f w => ∃ (H10 : Hp), f 3 = (.slice (some ⟨b1, 0, none⟩) p_s.length c2) ∧ m12.length = p_s.length ∧ St w0 H0 w H10 [.box b1 5 (m12.map byt)]) ?_ ?_
  · refine WP.block ?_
    refine WP.loopM (ref01_Lower_L0 p_s) (fun s f w => match s with | (i_6, m8) => ∃ (H4 : Hp), f 3 = (.slice (some ⟨b1, 0, none⟩) p_s.length c2) ∧ f 4 = (int i_6) ∧ m8.length = p_s.length ∧ St w0 H0 w H4 [.box b1 5 (m8.map byt)]) (0, p_s) m12 hr18 ?_ ?_
    · exact ⟨H0, rfl, rfl, rfl, S⟩
    · intro s f w hI y14 hy15 hy16
      obtain ⟨i_6, m8⟩ := s
      obtain ⟨H4, h5, h7, hL9, S⟩ := hI
      refine WP.seq ?_
      refine WP.seq ?_
      refine WP.region ?_
      refine WL.valw (R.mv (v := (int i_6)) h7) ?_
      refine WL.valw (R.mv (v := (.slice (some ⟨b1, 0, none⟩) p_s.length c2)) h5) ?_
      refine WL.valw (R.lenV rfl Tryd.underlying56) ?_
      refine WL.valw (R.lss rfl rfl) ?_
      refine WL.nil ?_
      rcases condE hy15 with ⟨hc19, hy15⟩ | ⟨hc19, hy15⟩
      · refine WP.condT rfl hc19 ?_
        refine WP.skip ?_
        refine WP.seq ?_
        refine WP.block ?_
        refine WP.seq ?_
        refine WP.region ?_
        refine WL.valw (R.mv (v := (.slice (some ⟨b1, 0, none⟩) p_s.length c2)) h5) ?_
        refine WL.valw (R.mv (v := (int i_6)) h7) ?_
        obtain ⟨c20, hc20, hy15⟩ := bindE hy15
        have hq21 := (map_byt_get hc20).2
        refine WL.valw (R.idxB rfl rfl el56 (by have := (map_byt_get hc20).2; have hl : m8.length = p_s.length := hL9; omega)) ?_
        obtain ⟨c22, hc22, hy15⟩ := bindE hy15
        refine WL.valw (R.loadB (i := 0) S rfl rfl lay5 (map_byt_get hc22).1) ?_
        refine WL.valw (R.geq8 (a := c22) (b := 65) rfl rfl) ?_
        refine WL.valw (R.mv (v := (boo (decide (65 ≤ c22)))) rfl) ?_
        obtain ⟨b28, hg24, hy15⟩ := bindE hy15
        refine WL.grp 6 [19, 20, 21, 22, 23] 24 (boo b28) ?_ ?_
        · rcases boolE (decide (65 ≤ c22)) with hb23 | hb23
          · replace hg24 := condT hg24 hb23
            refine WL.gyes rfl rfl hb23 ?_
            refine WL.valw (R.mv (v := (.slice (some ⟨b1, 0, none⟩) p_s.length c2)) h5) ?_
            refine WL.gyes rfl rfl hb23 ?_
            refine WL.valw (R.mv (v := (int i_6)) h7) ?_
            refine WL.gyes rfl rfl hb23 ?_
            obtain ⟨c25, hc25, hg24⟩ := bindE hg24
            have hq26 := (map_byt_get hc25).2
            refine WL.valw (R.idxB rfl rfl el56 (by have := (map_byt_get hc25).2; have hl : m8.length = p_s.length := hL9; omega)) ?_
            refine WL.gyes rfl rfl hb23 ?_
            obtain ⟨c27, hc27, hg24⟩ := bindE hg24
            refine WL.valw (R.loadB (i := 0) S rfl rfl lay5 (map_byt_get hc27).1) ?_
            refine WL.gyes rfl rfl hb23 ?_
            refine WL.valw (R.leq8 (a := c27) (b := 90) rfl rfl) ?_
            refine WL.valw (R.pickT rfl hb23 rfl) ?_
            exact WL.nil ⟨(congrArg boo (Option.some.inj hg24)), (by repeat (first | refine agree_upd rfl ?_ | refine agree_upds' rfl ?_ | exact agree_refl)), rfl⟩
          · replace hg24 := condF hg24 hb23
            refine WL.gno rfl rfl hb23 ?_
            refine WL.gno rfl rfl hb23 ?_
            refine WL.gno rfl rfl hb23 ?_
            refine WL.gno rfl rfl hb23 ?_
            refine WL.gno rfl rfl hb23 ?_
            refine WL.valw (R.pickF rfl hb23 rfl) ?_
            exact WL.nil ⟨(congrArg boo (Option.some.inj hg24)), (by repeat (first | refine agree_upd rfl ?_ | refine agree_upds' rfl ?_ | exact agree_refl)), rfl⟩
        · intro us
          refine WL.nil ?_
          rcases condE hy15 with ⟨hc29, hy15⟩ | ⟨hc29, hy15⟩
          · refine WP.condT rfl hc29 ?_
            refine WP.region ?_
            refine WL.valw (R.mv (v := (.slice (some ⟨b1, 0, none⟩) p_s.length c2)) h5) ?_
            refine WL.valw (R.mv (v := (int i_6)) h7) ?_
            obtain ⟨c30, hc30, hy15⟩ := bindE hy15
            have hq31 := (map_byt_get hc30).2
            refine WL.valw (R.idxB rfl rfl el56 (by have := (map_byt_get hc30).2; have hl : m8.length = p_s.length := hL9; omega)) ?_
            obtain ⟨c32, hc32, hy15⟩ := bindE hy15
            refine WL.valw (R.loadB (i := 0) S rfl rfl lay5 (map_byt_get hc32).1) ?_
            refine WL.valw (R.add8 (a := c32) (b := 32) rfl rfl) ?_
            obtain ⟨c33, hc33, hy15⟩ := bindE hy15
            have hq34 := (map_byt_get hc33).2
            refine WL.valw (R.idxB rfl rfl el56 (by have := (map_byt_get hc33).2; have hl : m8.length = p_s.length := hL9; omega)) ?_
            refine W.store (i := 0) ((m8.set i_6.toNat (c32 + 32)).map byt) S rfl rfl rfl lay5 rfl rfl (by rw [List.length_map]; omega) (splice_byt _ _ _ (by omega)) ?_
            intro w35 S
            refine WL.nil ?_
            refine WP.region ?_
            refine WL.valw (R.mv (v := (int i_6)) h7) ?_
            refine WL.valw (R.add rfl rfl) ?_
            refine WL.valw (R.as (v := (int (wr (i_6 + 1)))) rfl) ?_
            refine WL.nil ?_
            obtain rfl := Option.some.inj hy15
            exact ⟨rfl, ⟨H4, h5, rfl, (List.length_set.trans hL9), S⟩⟩
          · refine WP.condF rfl hc29 ?_
            refine WP.skip ?_
            refine WP.region ?_
            refine WL.valw (R.mv (v := (int i_6)) h7) ?_
            refine WL.valw (R.add rfl rfl) ?_
            refine WL.valw (R.as (v := (int (wr (i_6 + 1)))) rfl) ?_
            refine WL.nil ?_
            obtain rfl := Option.some.inj hy15
            exact ⟨rfl, ⟨H4, h5, rfl, hL9, S⟩⟩
      · refine WP.condF rfl hc19 ?_
        refine WP.exit ?_
        obtain rfl := Option.some.inj hy15
        obtain rfl := hy16
        exact ⟨H4, h5, hL9, S⟩
  · rintro f w ⟨H10, h11, hL13, S⟩
    refine WP.seq ?_
    refine WP.region ?_
    refine WL.valw (R.mv (v := (.slice (some ⟨b1, 0, none⟩) p_s.length c2)) h11) ?_
    refine WL.valw (R.strB (i := 0) (s := m12) S (by rw [show m12.length = p_s.length from hL13]; exact rfl) rfl Tryd.underlying56 Tryd.underlying9 Tryd.underlying5) ?_
    refine WL.valw (R.as (v := (str m12)) rfl) ?_
    refine WL.nil ?_
    obtain rfl := Option.some.inj h
    refine WP.ret (Out.one rfl S rfl ?_)
    exact rfl
set_option maxRecDepth 10000 in
set_option maxHeartbeats 4000000 in
theorem ref01_Fold_ok {w0 : World} {H0 : Hp} (hw : Holds w0 H0) (p_a : Str) (p_b : Str) {r : Bool} (h : ref01_Fold p_a p_b = some r) :
    Con Tryd.prog 24 [(str p_a), (str p_b)] w0 H0 (fun H' v => v = (boo r)) := by
  refine Con.mk (N := 17) Tryd.func24 rfl rfl (by kernel_rfl) rfl ?_
  have S := St.start hw
  refine WP.seq ?_
  refine WP.region ?_
  refine WL.valw (R.as (v := (boo false)) rfl) ?_
  refine WL.nil ?_
  refine WP.seq ?_
  refine WP.region ?_
  refine WL.valw (R.mv (v := (str p_a)) rfl) ?_
  refine WL.valw (R.lenS (a := p_a) rfl Tryd.underlying9) ?_
  refine WL.valw (R.mv (v := (str p_b)) rfl) ?_
  refine WL.valw (R.lenS (a := p_b) rfl Tryd.underlying9) ?_
  refine WL.valw (R.eql rfl rfl) ?_
  refine WL.valw (R.mv (v := (boo ((p_a.length : Int) == (p_b.length : Int)))) rfl) ?_
  obtain ⟨b13, hg2, h⟩ := bindE h
  refine WL.grpw 6 [11, 12, 13, 14, 15] 16 (boo b13) (fun w => ∃ H' : Hp, H0.le H' ∧ St w0 H0 w H' []) ?_ ?_
  · rcases boolE ((p_a.length : Int) == (p_b.length : Int)) with hb1 | hb1
    · replace hg2 := condT hg2 hb1
      refine WL.gyes rfl rfl hb1 ?_
      refine WL.valw (R.mv (v := (str p_a)) rfl) ?_
      refine WL.gyes rfl rfl hb1 ?_
      obtain ⟨r3, hr3, hg2⟩ := bindE hg2
      refine W.call S rfl (ref01_Lower_ok S.holds p_a hr3) ?_
      rintro v4 w5 H6 hle7 S rfl
      refine WL.gyes rfl rfl hb1 ?_
      refine WL.valw (R.mv (v := (str p_b)) rfl) ?_
      refine WL.gyes rfl rfl hb1 ?_
      obtain ⟨r8, hr8, hg2⟩ := bindE hg2
      refine W.call S rfl (ref01_Lower_ok S.holds p_b hr8) ?_
      rintro v9 w10 H11 hle12 S rfl
      refine WL.gyes rfl rfl hb1 ?_
      refine WL.valw (R.eqlS (a := r3) (b := r8) rfl rfl) ?_
      refine WL.valw (R.pickT rfl hb1 rfl) ?_
      exact WL.nil ⟨(congrArg boo (Option.some.inj hg2)), (by repeat (first | refine agree_upd rfl ?_ | refine agree_upds' rfl ?_ | exact agree_refl)), ⟨H11, (hle7.trans hle12), S⟩⟩
    · replace hg2 := condF hg2 hb1
      refine WL.gno rfl rfl hb1 ?_
      refine WL.gno rfl rfl hb1 ?_
      refine WL.gno rfl rfl hb1 ?_
      refine WL.gno rfl rfl hb1 ?_
      refine WL.gno rfl rfl hb1 ?_
      refine WL.valw (R.pickF rfl hb1 rfl) ?_
      exact WL.nil ⟨(congrArg boo (Option.some.inj hg2)), (by repeat (first | refine agree_upd rfl ?_ | refine agree_upds' rfl ?_ | exact agree_refl)), ⟨H0, (Hp.le.refl _), S⟩⟩
  · intro us w15 ⟨H14, hle16, S⟩
    refine WL.valw (R.as (v := (boo b13)) rfl) ?_
    refine WL.nil ?_
    obtain rfl := Option.some.inj h
    refine WP.ret (Out.one rfl S rfl ?_)
    exact rfl
set_option maxRecDepth 10000 in
set_option maxHeartbeats 4000000 in
theorem ref01_Get_ok {w0 : World} {H0 : Hp} (hw : Holds w0 H0) (p_l : (List GField)) (p_name : Str) {vp_l : Value} (Rp_l : Sl (α := GField) H0 vp_l p_l) {r : (List Str)} (h : ref01_Get p_l p_name = some r) :
    Con Tryd.prog 41 [vp_l, (str p_name)] w0 H0 (fun H' v => Sl (α := Str) H' v r) := by
  refine Con.mk (N := 29) Tryd.func41 rfl rfl (by kernel_rfl) rfl ?_
  have S := St.start hw
  refine WP.seq ?_
  refine WP.region ?_
  refine WL.valw (R.as (v := (.slice none 0 0)) rfl) ?_
  refine WL.nil ?_
  refine WP.seq ?_
  refine WP.region ?_
  refine WL.valw (R.as (v := (.slice none 0 0)) rfl) ?_
  refine WL.nil ?_
  refine WP.seq ?_
  refine WP.seq ?_
  refine WP.region ?_
  refine WL.valw (R.as (v := (int 0)) rfl) ?_
  refine WL.nil ?_
  have S := S.addNil 9 1
  obtain ⟨out_11, hr19, h⟩ := bindE h
  refine WP.cut (fun f w => ∃ (H10 : Hp) (v12 : Value), f 5 = v12 ∧ Sl (α := Str) H10 v12 out_11 ∧ St w0 H0 w H10 [.row v12 9 1 out_11.length]) ?_ ?_
  · refine WP.block ?_
    refine WP.loopM (ref01_Get_L0 p_l p_name) (fun s f w => match s with | (out_4, i_8) => ∃ (H1 : Hp) (v5 : Value), f 0 = vp_l ∧ f 1 = (str p_name) ∧ f 5 = v5 ∧ f 6 = (int i_8) ∧ Sl (α := GField) H1 vp_l p_l ∧ Sl (α := Str) H1 v5 out_4 ∧ St w0 H0 w H1 [.row v5 9 1 out_4.length]) (([] : List Str), 0) out_11 hr19 ?_ ?_
    · exact ⟨H0, .slice none 0 0, rfl, rfl, rfl, rfl, Rp_l, Sl.nil, S⟩
    · intro s f w hI y15 hy16 hy17
      obtain ⟨out_4, i_8⟩ := s
      obtain ⟨H1, v5, h2, h3, h7, h9, Rp_l, R6, S⟩ := hI
      refine WP.seq ?_
      refine WP.seq ?_
      refine WP.region ?_
      refine WL.valw (R.mv (v := (int i_8)) h9) ?_
      refine WL.valw (R.mv (v := vp_l) h2) ?_
      refine WL.valw (R.lenL (α := GField) (xs := p_l) (H := H1) Rp_l rfl Tryd.underlying23) ?_
      refine WL.valw (R.lss rfl rfl) ?_
      refine WL.nil ?_
      rcases condE hy16 with ⟨hc20, hy16⟩ | ⟨hc20, hy16⟩
      · refine WP.condT rfl hc20 ?_
        refine WP.skip ?_
        refine WP.seq ?_
        refine WP.block ?_
        refine WP.seq ?_
        refine WP.region ?_
        refine WL.valw (R.mv (v := vp_l) h2) ?_
        refine WL.valw (R.mv (v := (int i_8)) h9) ?_
        obtain ⟨x21, hx21, hy16⟩ := bindE hy16
        refine W.idx (α := GField) Rp_l rfl rfl el23 hx21 ?_
        rintro a22 _ hA23 rfl
        refine WL.valw (R.field rfl fld49_0) ?_
        have hA24 := At.add hA23 0 (by simp)
        refine WL.valw (R.loadH (v := (str x21.fName)) S rfl hA24 lay9 rfl) ?_
        refine WL.valw (R.mv (v := (str p_name)) h3) ?_
        obtain ⟨r25, hr25, hy16⟩ := bindE hy16
        refine W.call S rfl (ref01_Fold_ok S.holds x21.fName p_name hr25) ?_
        rintro v26 w27 H28 hle29 S rfl
        have Rp_l := Sl.mono Rp_l hle29
        have R6 := Sl.mono R6 hle29
        have hA23 := At.mono hA23 hle29 (by simp)
        have hA24 := At.mono hA24 hle29 (by simp)
        refine WL.nil ?_
        rcases condE hy16 with ⟨hc30, hy16⟩ | ⟨hc30, hy16⟩
        · refine WP.condT rfl hc30 ?_
          refine WP.region ?_
          refine WL.valw (R.mv (v := v5) h7) ?_
          refine WL.valw (R.mv (v := vp_l) h2) ?_
          refine WL.valw (R.mv (v := (int i_8)) h9) ?_
          obtain ⟨x31, hx31, hy16⟩ := bindE hy16
          refine W.idx (α := GField) Rp_l rfl rfl el23 hx31 ?_
          rintro a32 _ hA33 rfl
          refine WL.valw (R.field rfl fld49_1) ?_
          have hA34 := At.add hA33 1 (by simp)
          refine WL.valw (R.loadH (v := (str x31.fValue)) S rfl hA34 lay9 rfl) ?_
          refine W.bslice (α := Str) [(str x31.fValue)] ([x31.fValue] : List Str) S el22 rfl rfl rfl (by decide) (Go.Eng.encS ⟨rfl, rfl⟩ enc0) ?_
          intro u35 w36 H37 hle38 R39 S
          have Rp_l := Sl.mono Rp_l hle38
          have R6 := Sl.mono R6 hle38
          have hA23 := At.mono hA23 hle38 (by simp)
          have hA24 := At.mono hA24 hle38 (by simp)
          have hA33 := At.mono hA33 hle38 (by simp)
          have hA34 := At.mono hA34 hle38 (by simp)
          obtain ⟨l40, hl40, hy16⟩ := bindE hy16
          refine W.app (α := Str) (i := 1) S el22 rfl rfl rfl R6 R39 hl40 ?_
          intro v41 w42 H43 hle44 R45 S
          have Rp_l := Sl.mono Rp_l hle44
          have R6 := Sl.mono R6 hle44
          have hA23 := At.mono hA23 hle44 (by simp)
          have hA24 := At.mono hA24 hle44 (by simp)
          have hA33 := At.mono hA33 hle44 (by simp)
          have hA34 := At.mono hA34 hle44 (by simp)
          have R39 := Sl.mono R39 hle44
          refine WL.valw (R.as (v := v41) rfl) ?_
          refine WL.nil ?_
          refine WP.region ?_
          refine WL.valw (R.mv (v := (int i_8)) h9) ?_
          refine WL.valw (R.add rfl rfl) ?_
          refine WL.valw (R.as (v := (int (wr (i_8 + 1)))) rfl) ?_
          refine WL.nil ?_
          obtain rfl := Option.some.inj hy16
          exact ⟨rfl, ⟨H43, v41, h2, h3, rfl, rfl, Rp_l, R45, (S.drop _ (.cons _ (.cons_cons _ .slnil)))⟩⟩
        · refine WP.condF rfl hc30 ?_
          refine WP.skip ?_
          refine WP.region ?_
          refine WL.valw (R.mv (v := (int i_8)) h9) ?_
          refine WL.valw (R.add rfl rfl) ?_
          refine WL.valw (R.as (v := (int (wr (i_8 + 1)))) rfl) ?_
          refine WL.nil ?_
          obtain rfl := Option.some.inj hy16
          exact ⟨rfl, ⟨H28, v5, h2, h3, h7, rfl, Rp_l, R6, S⟩⟩
      · refine WP.condF rfl hc20 ?_
        refine WP.exit ?_
        obtain rfl := Option.some.inj hy16
        obtain rfl := hy17
        exact ⟨H1, v5, h7, R6, S⟩
  · rintro f w ⟨H10, v12, h14, R13, S⟩
    refine WP.seq ?_
    refine WP.region ?_
    refine WL.valw (R.mv (v := v12) h14) ?_
    refine WL.valw (R.as (v := v12) rfl) ?_
    refine WL.nil ?_
    obtain rfl := Option.some.inj h
    refine WP.ret (Out.one rfl S rfl ?_)
    exact R13
set_option maxRecDepth 10000 in
set_option maxHeartbeats 4000000 in
theorem ref10_Name_ok {w0 : World} {H0 : Hp} (hw : Holds w0 H0) (p_kind : Int) {r : Str} (h : ref10_Name p_kind = some r) :
    Con Tryd.prog 69 [(int p_kind)] w0 H0 (fun H' v => v = (str r)) := by
  refine Con.mk (N := 12) Tryd.func69 rfl rfl (by kernel_rfl) rfl ?_
  have S := St.start hw
  refine WP.seq ?_
  refine WP.region ?_
  refine WL.valw (R.as (v := (str [])) rfl) ?_
  refine WL.nil ?_
  refine WP.seq ?_
  refine WP.seq ?_
  refine WP.region ?_
  refine WL.valw (R.mv (v := (int p_kind)) rfl) ?_
  refine WL.nil ?_
  refine WP.block ?_
  refine WP.seq ?_
  refine WP.region ?_
  refine WL.valw (R.eql rfl rfl) ?_
  refine WL.valw (R.as (v := (boo (p_kind == 1))) rfl) ?_
  refine WL.nil ?_
  rcases condE h with ⟨hc1, h⟩ | ⟨hc1, h⟩
  · refine WP.condT rfl hc1 ?_
    refine WP.seq ?_
    refine WP.region ?_
    refine WL.valw (R.as (v := (str [65, 99, 99, 101, 112, 116])) rfl) ?_
    refine WL.nil ?_
    obtain rfl := Option.some.inj h
    refine WP.ret (Out.one rfl S rfl ?_)
    exact rfl
  · refine WP.condF rfl hc1 ?_
    refine WP.seq ?_
    refine WP.region ?_
    refine WL.valw (R.eql rfl rfl) ?_
    refine WL.valw (R.as (v := (boo (p_kind == 2))) rfl) ?_
    refine WL.nil ?_
    rcases condE h with ⟨hc2, h⟩ | ⟨hc2, h⟩
    · refine WP.condT rfl hc2 ?_
      refine WP.seq ?_
      refine WP.region ?_
      refine WL.valw (R.as (v := (str [65, 99, 99, 101, 112, 116, 45, 76, 97, 110, 103, 117, 97, 103, 101])) rfl) ?_
      refine WL.nil ?_
      obtain rfl := Option.some.inj h
      refine WP.ret (Out.one rfl S rfl ?_)
      exact rfl
    · refine WP.condF rfl hc2 ?_
      refine WP.seq ?_
      refine WP.region ?_
      refine WL.valw (R.eql rfl rfl) ?_
      refine WL.valw (R.as (v := (boo (p_kind == 3))) rfl) ?_
      refine WL.nil ?_
      rcases condE h with ⟨hc3, h⟩ | ⟨hc3, h⟩
      · refine WP.condT rfl hc3 ?_
        refine WP.seq ?_
        refine WP.region ?_
        refine WL.valw (R.as (v := (str [65, 99, 99, 101, 112, 116, 45, 67, 104, 97, 114, 115, 101, 116])) rfl) ?_
        refine WL.nil ?_
        obtain rfl := Option.some.inj h
        refine WP.ret (Out.one rfl S rfl ?_)
        exact rfl
      · refine WP.condF rfl hc3 ?_
        refine WP.seq ?_
        refine WP.region ?_
        refine WL.valw (R.eql rfl rfl) ?_
        refine WL.valw (R.as (v := (boo (p_kind == 4))) rfl) ?_
        refine WL.nil ?_
        rcases condE h with ⟨hc4, h⟩ | ⟨hc4, h⟩
        · refine WP.condT rfl hc4 ?_
          refine WP.seq ?_
          refine WP.region ?_
          refine WL.valw (R.as (v := (str [65, 99, 99, 101, 112, 116, 45, 69, 110, 99, 111, 100, 105, 110, 103])) rfl) ?_
          refine WL.nil ?_
          obtain rfl := Option.some.inj h
          refine WP.ret (Out.one rfl S rfl ?_)
          exact rfl
        · refine WP.condF rfl hc4 ?_
          refine WP.skip ?_
          refine WP.seq ?_
          refine WP.region ?_
          refine WL.valw (R.as (v := (str [])) rfl) ?_
          refine WL.nil ?_
          obtain rfl := Option.some.inj h
          refine WP.ret (Out.one rfl S rfl ?_)
          exact rfl
set_option maxRecDepth 10000 in
set_option maxHeartbeats 4000000 in
theorem ref10_Kind_ok {w0 : World} {H0 : Hp} (hw : Holds w0 H0) (p_name : Str) {r : Int} (h : ref10_Kind p_name = some r) :
    Con Tryd.prog 42 [(str p_name)] w0 H0 (fun H' v => v = (int r)) := by
  refine Con.mk (N := 13) Tryd.func42 rfl rfl (by kernel_rfl) rfl ?_
  have S := St.start hw
  refine WP.seq ?_
  refine WP.region ?_
  refine WL.valw (R.as (v := (int 0)) rfl) ?_
  refine WL.nil ?_
  refine WP.seq ?_
  refine WP.seq ?_
  refine WP.region ?_
  refine WL.valw (R.as (v := (int 1)) rfl) ?_
  refine WL.nil ?_
  refine WP.block ?_
  refine WP.loopRd 5 ?_
  refine RD.succ ?_
  refine WP.seq ?_
  refine WP.seq ?_
  refine WP.region ?_
  refine WL.valw (R.mv (v := (int 1)) rfl) ?_
  refine WL.valw (v := (boo true)) (R.ofEq (R.leq rfl rfl) rfl) ?_
  refine WL.nil ?_
  refine WP.condT (b := true) rfl rfl ?_
  refine WP.skip ?_
  refine WP.seq ?_
  refine WP.block ?_
  refine WP.seq ?_
  refine WP.region ?_
  refine WL.valw (R.mv (v := (str p_name)) rfl) ?_
  refine WL.valw (R.mv (v := (int 1)) rfl) ?_
  obtain ⟨r1, hr1, h⟩ := bindE h
  refine W.call S rfl (ref10_Name_ok S.holds 1 hr1) ?_
  rintro v2 w3 H4 hle5 S rfl
  obtain ⟨r6, hr6, h⟩ := bindE h
  refine W.call S rfl (ref01_Fold_ok S.holds p_name r1 hr6) ?_
  rintro v7 w8 H9 hle10 S rfl
  refine WL.nil ?_
  rcases condE h with ⟨hc11, h⟩ | ⟨hc11, h⟩
  · refine WP.condT rfl hc11 ?_
    refine WP.seq ?_
    refine WP.region ?_
    refine WL.valw (R.mv (v := (int 1)) rfl) ?_
    refine WL.valw (R.as (v := (int 1)) rfl) ?_
    refine WL.nil ?_
    obtain rfl := Option.some.inj h
    refine WP.ret (Out.one rfl S rfl ?_)
    exact rfl
  · refine WP.condF rfl hc11 ?_
    refine WP.skip ?_
    refine WP.region ?_
    refine WL.valw (R.mv (v := (int 1)) rfl) ?_
    refine WL.valw (v := (int 2)) (R.ofEq (R.add rfl rfl) rfl) ?_
    refine WL.valw (R.as (v := (int 2)) rfl) ?_
    refine WL.nil ?_
    refine RD.succ ?_
    refine WP.seq ?_
    refine WP.seq ?_
    refine WP.region ?_
    refine WL.valw (R.mv (v := (int 2)) rfl) ?_
    refine WL.valw (v := (boo true)) (R.ofEq (R.leq rfl rfl) rfl) ?_
    refine WL.nil ?_
    refine WP.condT (b := true) rfl rfl ?_
    refine WP.skip ?_
    refine WP.seq ?_
    refine WP.block ?_
    refine WP.seq ?_
    refine WP.region ?_
    refine WL.valw (R.mv (v := (str p_name)) rfl) ?_
    refine WL.valw (R.mv (v := (int 2)) rfl) ?_
    obtain ⟨r12, hr12, h⟩ := bindE h
    refine W.call S rfl (ref10_Name_ok S.holds 2 hr12) ?_
    rintro v13 w14 H15 hle16 S rfl
    obtain ⟨r17, hr17, h⟩ := bindE h
    refine W.call S rfl (ref01_Fold_ok S.holds p_name r12 hr17) ?_
    rintro v18 w19 H20 hle21 S rfl
    refine WL.nil ?_
    rcases condE h with ⟨hc22, h⟩ | ⟨hc22, h⟩
    · refine WP.condT rfl hc22 ?_
      refine WP.seq ?_
      refine WP.region ?_
      refine WL.valw (R.mv (v := (int 2)) rfl) ?_
      refine WL.valw (R.as (v := (int 2)) rfl) ?_
      refine WL.nil ?_
      obtain rfl := Option.some.inj h
      refine WP.ret (Out.one rfl S rfl ?_)
      exact rfl
    · refine WP.condF rfl hc22 ?_
      refine WP.skip ?_
      refine WP.region ?_
      refine WL.valw (R.mv (v := (int 2)) rfl) ?_
      refine WL.valw (v := (int 3)) (R.ofEq (R.add rfl rfl) rfl) ?_
      refine WL.valw (R.as (v := (int 3)) rfl) ?_
      refine WL.nil ?_
      refine RD.succ ?_
      refine WP.seq ?_
      refine WP.seq ?_
      refine WP.region ?_
      refine WL.valw (R.mv (v := (int 3)) rfl) ?_
      refine WL.valw (v := (boo true)) (R.ofEq (R.leq rfl rfl) rfl) ?_
      refine WL.nil ?_
      refine WP.condT (b := true) rfl rfl ?_
      refine WP.skip ?_
      refine WP.seq ?_
      refine WP.block ?_
      refine WP.seq ?_
      refine WP.region ?_
      refine WL.valw (R.mv (v := (str p_name)) rfl) ?_
      refine WL.valw (R.mv (v := (int 3)) rfl) ?_
      obtain ⟨r23, hr23, h⟩ := bindE h
      refine W.call S rfl (ref10_Name_ok S.holds 3 hr23) ?_
      rintro v24 w25 H26 hle27 S rfl
      obtain ⟨r28, hr28, h⟩ := bindE h
      refine W.call S rfl (ref01_Fold_ok S.holds p_name r23 hr28) ?_
      rintro v29 w30 H31 hle32 S rfl
      refine WL.nil ?_
      rcases condE h with ⟨hc33, h⟩ | ⟨hc33, h⟩
      · refine WP.condT rfl hc33 ?_
        refine WP.seq ?_
        refine WP.region ?_
        refine WL.valw (R.mv (v := (int 3)) rfl) ?_
        refine WL.valw (R.as (v := (int 3)) rfl) ?_
        refine WL.nil ?_
        obtain rfl := Option.some.inj h
        refine WP.ret (Out.one rfl S rfl ?_)
        exact rfl
      · refine WP.condF rfl hc33 ?_
        refine WP.skip ?_
        refine WP.region ?_
        refine WL.valw (R.mv (v := (int 3)) rfl) ?_
        refine WL.valw (v := (int 4)) (R.ofEq (R.add rfl rfl) rfl) ?_
        refine WL.valw (R.as (v := (int 4)) rfl) ?_
        refine WL.nil ?_
        refine RD.succ ?_
        refine WP.seq ?_
        refine WP.seq ?_
        refine WP.region ?_
        refine WL.valw (R.mv (v := (int 4)) rfl) ?_
        refine WL.valw (v := (boo true)) (R.ofEq (R.leq rfl rfl) rfl) ?_
        refine WL.nil ?_
        refine WP.condT (b := true) rfl rfl ?_
        refine WP.skip ?_
        refine WP.seq ?_
        refine WP.block ?_
        refine WP.seq ?_
        refine WP.region ?_
        refine WL.valw (R.mv (v := (str p_name)) rfl) ?_
        refine WL.valw (R.mv (v := (int 4)) rfl) ?_
        obtain ⟨r34, hr34, h⟩ := bindE h
        refine W.call S rfl (ref10_Name_ok S.holds 4 hr34) ?_
        rintro v35 w36 H37 hle38 S rfl
        obtain ⟨r39, hr39, h⟩ := bindE h
        refine W.call S rfl (ref01_Fold_ok S.holds p_name r34 hr39) ?_
        rintro v40 w41 H42 hle43 S rfl
        refine WL.nil ?_
        rcases condE h with ⟨hc44, h⟩ | ⟨hc44, h⟩
        · refine WP.condT rfl hc44 ?_
          refine WP.seq ?_
          refine WP.region ?_
          refine WL.valw (R.mv (v := (int 4)) rfl) ?_
          refine WL.valw (R.as (v := (int 4)) rfl) ?_
          refine WL.nil ?_
          obtain rfl := Option.some.inj h
          refine WP.ret (Out.one rfl S rfl ?_)
          exact rfl
        · refine WP.condF rfl hc44 ?_
          refine WP.skip ?_
          refine WP.region ?_
          refine WL.valw (R.mv (v := (int 4)) rfl) ?_
          refine WL.valw (v := (int 5)) (R.ofEq (R.add rfl rfl) rfl) ?_
          refine WL.valw (R.as (v := (int 5)) rfl) ?_
          refine WL.nil ?_
          refine RD.succ ?_
          refine WP.seq ?_
          refine WP.seq ?_
          refine WP.region ?_
          refine WL.valw (R.mv (v := (int 5)) rfl) ?_
          refine WL.valw (v := (boo false)) (R.ofEq (R.leq rfl rfl) rfl) ?_
          refine WL.nil ?_
          refine WP.condF (b := false) rfl rfl ?_
          refine WP.exit ?_
          refine WP.seq ?_
          refine WP.region ?_
          refine WL.valw (R.as (v := (int 0)) rfl) ?_
          refine WL.nil ?_
          obtain rfl := Option.some.inj h
          refine WP.ret (Out.one rfl S rfl ?_)
          exact rfl
set_option maxRecDepth 10000 in
set_option maxHeartbeats 4000000 in
theorem ref01_Cut_ok {w0 : World} {H0 : Hp} (hw : Holds w0 H0) (p_s : Str) (p_at : UInt8) {r : (List Str)} (h : ref01_Cut p_s p_at = some r) :
    Con Tryd.prog 73 [(str p_s), (byt p_at)] w0 H0 (fun H' v => Sl (α := Str) H' v r) := by
  refine Con.mk (N := 57) Tryd.func73 rfl rfl (by kernel_rfl) rfl ?_
  have S := St.start hw
  refine WP.seq ?_
  refine WP.region ?_
  refine WL.valw (R.as (v := (.slice none 0 0)) rfl) ?_
  refine WL.nil ?_
  refine WP.seq ?_
  refine WP.region ?_
  refine WL.valw (R.as (v := (.slice none 0 0)) rfl) ?_
  refine WL.nil ?_
  refine WP.seq ?_
  refine WP.region ?_
  refine WL.valw (R.as (v := (int 0)) rfl) ?_
  refine WL.valw (R.as (v := (boo false)) rfl) ?_
  refine WL.nil ?_
  refine WP.seq ?_
  refine WP.seq ?_
  refine WP.region ?_
  refine WL.valw (R.as (v := (int 0)) rfl) ?_
  refine WL.nil ?_
  have S := S.addNil 9 1
  obtain ⟨r25, hr26, h⟩ := bindE h
  refine WP.cut (fun f w => match r25 with | (out_16, from_20) => ∃ (H14 : Hp) (v17 : Value), f 0 = (str p_s) ∧ f 5 = v17 ∧ f 6 = (int from_20) ∧ Sl (α := Str) H14 v17 out_16 ∧ St w0 H0 w H14 [.row v17 9 1 out_16.length]) ?_ ?_
  · refine WP.block ?_
    refine WP.loopM (ref01_Cut_L0 p_s p_at) (fun s f w => match s with | (out_4, from_8, quoted_10, i_12) => ∃ (H1 : Hp) (v5 : Value), f 0 = (str p_s) ∧ f 1 = (byt p_at) ∧ f 5 = v5 ∧ f 6 = (int from_8) ∧ f 7 = (boo quoted_10) ∧ f 8 = (int i_12) ∧ Sl (α := Str) H1 v5 out_4 ∧ St w0 H0 w H1 [.row v5 9 1 out_4.length]) (([] : List Str), 0, false, 0) r25 hr26 ?_ ?_
    · exact ⟨H0, .slice none 0 0, rfl, rfl, rfl, rfl, rfl, rfl, Sl.nil, S⟩
    · intro s f w hI y22 hy23 hy24
      obtain ⟨out_4, from_8, quoted_10, i_12⟩ := s
      obtain ⟨H1, v5, h2, h3, h7, h9, h11, h13, R6, S⟩ := hI
      refine WP.seq ?_
      refine WP.seq ?_
      refine WP.region ?_
      refine WL.valw (R.mv (v := (int i_12)) h13) ?_
      refine WL.valw (R.mv (v := (str p_s)) h2) ?_
      refine WL.valw (R.lenS (a := p_s) rfl Tryd.underlying9) ?_
      refine WL.valw (R.lss rfl rfl) ?_
      refine WL.nil ?_
      rcases condE hy23 with ⟨hc27, hy23⟩ | ⟨hc27, hy23⟩
      · refine WP.condT rfl hc27 ?_
        refine WP.skip ?_
        refine WP.seq ?_
        refine WP.block ?_
        refine WP.block ?_
        refine WP.seq ?_
        refine WP.region ?_
        refine WL.valw (R.mv (v := (boo quoted_10)) h11) ?_
        refine WL.valw (R.mv (v := (boo quoted_10)) rfl) ?_
        obtain ⟨b31, hg29, hy23⟩ := bindE hy23
        refine WL.grp 5 [18, 19, 20, 21] 22 (boo b31) ?_ ?_
        · rcases boolE quoted_10 with hb28 | hb28
          · replace hg29 := condT hg29 hb28
            refine WL.gyes rfl rfl hb28 ?_
            refine WL.valw (R.mv (v := (str p_s)) h2) ?_
            refine WL.gyes rfl rfl hb28 ?_
            refine WL.valw (R.mv (v := (int i_12)) h13) ?_
            refine WL.gyes rfl rfl hb28 ?_
            obtain ⟨c30, hc30, hg29⟩ := bindE hg29
            refine WL.valw (R.idxS rfl rfl Tryd.underlying9 hc30) ?_
            refine WL.gyes rfl rfl hb28 ?_
            refine WL.valw (R.eql8 (a := c30) (b := 92) rfl rfl) ?_
            refine WL.valw (R.pickT rfl hb28 rfl) ?_
            exact WL.nil ⟨(congrArg boo (Option.some.inj hg29)), (by repeat (first | refine agree_upd rfl ?_ | refine agree_upds' rfl ?_ | exact agree_refl)), rfl⟩
          · replace hg29 := condF hg29 hb28
            refine WL.gno rfl rfl hb28 ?_
            refine WL.gno rfl rfl hb28 ?_
            refine WL.gno rfl rfl hb28 ?_
            refine WL.gno rfl rfl hb28 ?_
            refine WL.valw (R.pickF rfl hb28 rfl) ?_
            exact WL.nil ⟨(congrArg boo (Option.some.inj hg29)), (by repeat (first | refine agree_upd rfl ?_ | refine agree_upds' rfl ?_ | exact agree_refl)), rfl⟩
        · intro us
          refine WL.valw (R.as (v := (boo b31)) rfl) ?_
          refine WL.nil ?_
          rcases condE hy23 with ⟨hc32, hy23⟩ | ⟨hc32, hy23⟩
          · refine WP.condT rfl hc32 ?_
            refine WP.region ?_
            refine WL.valw (R.mv (v := (int i_12)) h13) ?_
            refine WL.valw (R.add rfl rfl) ?_
            refine WL.valw (R.as (v := (int (wr (i_12 + 1)))) rfl) ?_
            refine WL.nil ?_
            refine WP.region ?_
            refine WL.valw (R.mv (v := (int (wr (i_12 + 1)))) rfl) ?_
            refine WL.valw (R.add rfl rfl) ?_
            refine WL.valw (R.as (v := (int (wr ((wr (i_12 + 1)) + 1)))) rfl) ?_
            refine WL.nil ?_
            obtain rfl := Option.some.inj hy23
            exact ⟨rfl, ⟨H1, v5, h2, h3, h7, h9, h11, rfl, R6, S⟩⟩
          · refine WP.condF rfl hc32 ?_
            refine WP.seq ?_
            refine WP.region ?_
            refine WL.valw (R.mv (v := (str p_s)) h2) ?_
            refine WL.valw (R.mv (v := (int i_12)) h13) ?_
            obtain ⟨c33, hc33, hy23⟩ := bindE hy23
            refine WL.valw (R.idxS rfl rfl Tryd.underlying9 hc33) ?_
            refine WL.valw (R.eql8 (a := c33) (b := 34) rfl rfl) ?_
            refine WL.valw (R.as (v := (boo (c33 == 34))) rfl) ?_
            refine WL.nil ?_
            rcases condE hy23 with ⟨hc34, hy23⟩ | ⟨hc34, hy23⟩
            · refine WP.condT rfl hc34 ?_
              refine WP.region ?_
              refine WL.valw (R.mv (v := (boo quoted_10)) h11) ?_
              refine WL.valw (R.not rfl) ?_
              refine WL.valw (R.as (v := (boo (!quoted_10))) rfl) ?_
              refine WL.nil ?_
              refine WP.region ?_
              refine WL.valw (R.mv (v := (int i_12)) h13) ?_
              refine WL.valw (R.add rfl rfl) ?_
              refine WL.valw (R.as (v := (int (wr (i_12 + 1)))) rfl) ?_
              refine WL.nil ?_
              obtain rfl := Option.some.inj hy23
              exact ⟨rfl, ⟨H1, v5, h2, h3, h7, h9, rfl, rfl, R6, S⟩⟩
            · refine WP.condF rfl hc34 ?_
              refine WP.seq ?_
              refine WP.region ?_
              refine WL.valw (R.mv (v := (str p_s)) h2) ?_
              refine WL.valw (R.mv (v := (int i_12)) h13) ?_
              obtain ⟨c35, hc35, hy23⟩ := bindE hy23
              refine WL.valw (R.idxS rfl rfl Tryd.underlying9 hc35) ?_
              refine WL.valw (R.mv (v := (byt p_at)) h3) ?_
              refine WL.valw (R.eql8 (a := c35) (b := p_at) rfl rfl) ?_
              refine WL.valw (R.mv (v := (boo (c35 == p_at))) rfl) ?_
              refine WL.grp 3 [39, 40] 41 (boo ((c35 == p_at) && (!quoted_10))) ?_ ?_
              · rcases boolE (c35 == p_at) with hb36 | hb36
                · refine WL.gyes rfl rfl hb36 ?_
                  refine WL.valw (R.mv (v := (boo quoted_10)) h11) ?_
                  refine WL.gyes rfl rfl hb36 ?_
                  refine WL.valw (R.not rfl) ?_
                  refine WL.valw (R.pickT rfl hb36 rfl) ?_
                  exact WL.nil ⟨(andT hb36), (by repeat (first | refine agree_upd rfl ?_ | refine agree_upds' rfl ?_ | exact agree_refl)), rfl⟩
                · refine WL.gno rfl rfl hb36 ?_
                  refine WL.gno rfl rfl hb36 ?_
                  refine WL.valw (R.pickF rfl hb36 rfl) ?_
                  exact WL.nil ⟨(andF hb36), (by repeat (first | refine agree_upd rfl ?_ | refine agree_upds' rfl ?_ | exact agree_refl)), rfl⟩
              · intro us
                refine WL.valw (R.as (v := (boo ((c35 == p_at) && (!quoted_10)))) rfl) ?_
                refine WL.nil ?_
                rcases condE hy23 with ⟨hc38, hy23⟩ | ⟨hc38, hy23⟩
                · refine WP.condT rfl hc38 ?_
                  refine WP.seq ?_
                  refine WP.region ?_
                  refine WL.valw (R.mv (v := v5) h7) ?_
                  refine WL.valw (R.mv (v := (str p_s)) h2) ?_
                  refine WL.valw (R.mv (v := (int from_8)) h9) ?_
                  refine WL.valw (R.mv (v := (int i_12)) h13) ?_
                  obtain ⟨s39, hs39, hy23⟩ := bindE hy23
                  refine WL.valw (R.subS rfl rfl rfl Tryd.underlying9 hs39) ?_
                  refine W.bslice (α := Str) [(str s39)] ([s39] : List Str) S el22 rfl rfl rfl (by decide) (Go.Eng.encS ⟨rfl, rfl⟩ enc0) ?_
                  intro u40 w41 H42 hle43 R44 S
                  have R6 := Sl.mono R6 hle43
                  obtain ⟨l45, hl45, hy23⟩ := bindE hy23
                  refine W.app (α := Str) (i := 1) S el22 rfl rfl rfl R6 R44 hl45 ?_
                  intro v46 w47 H48 hle49 R50 S
                  have R6 := Sl.mono R6 hle49
                  have R44 := Sl.mono R44 hle49
                  refine WL.valw (R.as (v := v46) rfl) ?_
                  refine WL.nil ?_
                  refine WP.region ?_
                  refine WL.valw (R.mv (v := (int i_12)) h13) ?_
                  refine WL.valw (R.add rfl rfl) ?_
                  refine WL.valw (R.as (v := (int (wr (i_12 + 1)))) rfl) ?_
                  refine WL.nil ?_
                  refine WP.region ?_
                  refine WL.valw (R.mv (v := (int i_12)) h13) ?_
                  refine WL.valw (R.add rfl rfl) ?_
                  refine WL.valw (R.as (v := (int (wr (i_12 + 1)))) rfl) ?_
                  refine WL.nil ?_
                  obtain rfl := Option.some.inj hy23
                  exact ⟨rfl, ⟨H48, v46, h2, h3, rfl, rfl, h11, rfl, R50, (S.drop _ (.cons _ (.cons_cons _ .slnil)))⟩⟩
                · refine WP.condF rfl hc38 ?_
                  refine WP.skip ?_
                  refine WP.region ?_
                  refine WL.valw (R.mv (v := (int i_12)) h13) ?_
                  refine WL.valw (R.add rfl rfl) ?_
                  refine WL.valw (R.as (v := (int (wr (i_12 + 1)))) rfl) ?_
                  refine WL.nil ?_
                  obtain rfl := Option.some.inj hy23
                  exact ⟨rfl, ⟨H1, v5, h2, h3, h7, h9, h11, rfl, R6, S⟩⟩
      · refine WP.condF rfl hc27 ?_
        refine WP.exit ?_
        obtain rfl := Option.some.inj hy23
        obtain rfl := hy24
        exact ⟨H1, v5, h2, h7, h9, R6, S⟩
  · intro f w hM
    obtain ⟨out_16, from_20⟩ := r25
    obtain ⟨H14, v17, h15, h19, h21, R18, S⟩ := hM
    refine WP.seq ?_
    refine WP.region ?_
    refine WL.valw (R.mv (v := v17) h19) ?_
    refine WL.valw (R.mv (v := (str p_s)) h15) ?_
    refine WL.valw (R.mv (v := (int from_20)) h21) ?_
    obtain ⟨s51, hs51, h⟩ := bindE h
    refine WL.valw (R.subSlo rfl rfl Tryd.underlying9 hs51) ?_
    refine W.bslice (α := Str) [(str s51)] ([s51] : List Str) S el22 rfl rfl rfl (by decide) (Go.Eng.encS ⟨rfl, rfl⟩ enc0) ?_
    intro u52 w53 H54 hle55 R56 S
    have R18 := Sl.mono R18 hle55
    obtain ⟨l57, hl57, h⟩ := bindE h
    refine W.app (α := Str) (i := 1) S el22 rfl rfl rfl R18 R56 hl57 ?_
    intro v58 w59 H60 hle61 R62 S
    have R18 := Sl.mono R18 hle61
    have R56 := Sl.mono R56 hle61
    refine WL.valw (R.as (v := v58) rfl) ?_
    refine WL.nil ?_
    obtain rfl := Option.some.inj h
    refine WP.ret (Out.one rfl S rfl ?_)
    exact R62
set_option maxRecDepth 10000 in
set_option maxHeartbeats 4000000 in
theorem ref01_blank_ok {w0 : World} {H0 : Hp} (hw : Holds w0 H0) (p_c : UInt8) {r : Bool} (h : ref01_blank p_c = some r) :
    Con Tryd.prog 99 [(byt p_c)] w0 H0 (fun H' v => v = (boo r)) := by
  refine Con.mk (N := 9) Tryd.func99 rfl rfl (by kernel_rfl) rfl ?_
  have S := St.start hw
  refine WP.seq ?_
  refine WP.region ?_
  refine WL.valw (R.as (v := (boo false)) rfl) ?_
  refine WL.nil ?_
  refine WP.seq ?_
  refine WP.region ?_
  refine WL.valw (R.mv (v := (byt p_c)) rfl) ?_
  refine WL.valw (R.eql8 (a := p_c) (b := 32) rfl rfl) ?_
  refine WL.valw (R.mv (v := (boo (p_c == 32))) rfl) ?_
  refine WL.grp 3 [6, 7] 8 (boo ((p_c == 32) || (p_c == 9))) ?_ ?_
  · rcases boolE (p_c == 32) with hb1 | hb1
    · refine WL.gno rfl rfl hb1 ?_
      refine WL.gno rfl rfl hb1 ?_
      refine WL.valw (R.pickT rfl hb1 rfl) ?_
      exact WL.nil ⟨(orT hb1), (by repeat (first | refine agree_upd rfl ?_ | refine agree_upds' rfl ?_ | exact agree_refl)), rfl⟩
    · refine WL.gyes rfl rfl hb1 ?_
      refine WL.valw (R.mv (v := (byt p_c)) rfl) ?_
      refine WL.gyes rfl rfl hb1 ?_
      refine WL.valw (R.eql8 (a := p_c) (b := 9) rfl rfl) ?_
      refine WL.valw (R.pickF rfl hb1 rfl) ?_
      exact WL.nil ⟨(orF hb1), (by repeat (first | refine agree_upd rfl ?_ | refine agree_upds' rfl ?_ | exact agree_refl)), rfl⟩
  · intro us
    refine WL.valw (R.as (v := (boo ((p_c == 32) || (p_c == 9)))) rfl) ?_
    refine WL.nil ?_
    obtain rfl := Option.some.inj h
    refine WP.ret (Out.one rfl S rfl ?_)
    exact rfl
set_option maxRecDepth 10000 in
set_option maxHeartbeats 4000000 in
theorem ref01_Trim_ok {w0 : World} {H0 : Hp} (hw : Holds w0 H0) (p_s : Str) {r : Str} (h : ref01_Trim p_s = some r) :
    Con Tryd.prog 74 [(str p_s)] w0 H0 (fun H' v => v = (str r)) := by
  refine Con.mk (N := 30) Tryd.func74 rfl rfl (by kernel_rfl) rfl ?_
  have S := St.start hw
  refine WP.seq ?_
  refine WP.region ?_
  refine WL.valw (R.as (v := (str [])) rfl) ?_
  refine WL.nil ?_
  refine WP.seq ?_
  obtain ⟨s_5, hr11, h⟩ := bindE h
  refine WP.cut (fun f w => ∃ (H4 : Hp), f 0 = (str s_5) ∧ St w0 H0 w H4 []) ?_ ?_
  · refine WP.block ?_
    refine WP.loopM (ref01_Trim_L0) (fun s f w => match s with | s_2 => ∃ (H1 : Hp), f 0 = (str s_2) ∧ St w0 H0 w H1 []) p_s s_5 hr11 ?_ ?_
    · exact ⟨H0, rfl, S⟩
    · intro s_2 f w hI y7 hy8 hy9
      obtain ⟨H1, h3, S⟩ := hI
      refine WP.seq ?_
      refine WP.seq ?_
      refine WP.region ?_
      refine WL.valw (R.mv (v := (str s_2)) h3) ?_
      refine WL.valw (R.lenS (a := s_2) rfl Tryd.underlying9) ?_
      refine WL.valw (R.gtr rfl rfl) ?_
      refine WL.valw (R.mv (v := (boo (decide (0 < (s_2.length : Int))))) rfl) ?_
      obtain ⟨b20, hg13, hy8⟩ := bindE hy8
      refine WL.grpw 4 [7, 8, 9] 10 (boo b20) (fun w => ∃ H' : Hp, H1.le H' ∧ St w0 H0 w H' []) ?_ ?_
      · rcases boolE (decide (0 < (s_2.length : Int))) with hb12 | hb12
        · replace hg13 := condT hg13 hb12
          refine WL.gyes rfl rfl hb12 ?_
          refine WL.valw (R.mv (v := (str s_2)) h3) ?_
          refine WL.gyes rfl rfl hb12 ?_
          obtain ⟨c14, hc14, hg13⟩ := bindE hg13
          refine WL.valw (R.idxS rfl rfl Tryd.underlying9 hc14) ?_
          refine WL.gyes rfl rfl hb12 ?_
          obtain ⟨r15, hr15, hg13⟩ := bindE hg13
          refine W.call S rfl (ref01_blank_ok S.holds c14 hr15) ?_
          rintro v16 w17 H18 hle19 S rfl
          refine WL.valw (R.pickT rfl hb12 rfl) ?_
          exact WL.nil ⟨(congrArg boo (Option.some.inj hg13)), (by repeat (first | refine agree_upd rfl ?_ | refine agree_upds' rfl ?_ | exact agree_refl)), ⟨H18, hle19, S⟩⟩
        · replace hg13 := condF hg13 hb12
          refine WL.gno rfl rfl hb12 ?_
          refine WL.gno rfl rfl hb12 ?_
          refine WL.gno rfl rfl hb12 ?_
          refine WL.valw (R.pickF rfl hb12 rfl) ?_
          exact WL.nil ⟨(congrArg boo (Option.some.inj hg13)), (by repeat (first | refine agree_upd rfl ?_ | refine agree_upds' rfl ?_ | exact agree_refl)), ⟨H1, (Hp.le.refl _), S⟩⟩
      · intro us w22 ⟨H21, hle23, S⟩
        refine WL.nil ?_
        rcases condE hy8 with ⟨hc24, hy8⟩ | ⟨hc24, hy8⟩
        · refine WP.condT rfl hc24 ?_
          refine WP.skip ?_
          refine WP.block ?_
          refine WP.region ?_
          refine WL.valw (R.mv (v := (str s_2)) h3) ?_
          obtain ⟨s25, hs25, hy8⟩ := bindE hy8
          refine WL.valw (R.subSlo rfl rfl Tryd.underlying9 hs25) ?_
          refine WL.valw (R.as (v := (str s25)) rfl) ?_
          refine WL.nil ?_
          obtain rfl := Option.some.inj hy8
          exact ⟨rfl, ⟨H21, rfl, S⟩⟩
        · refine WP.condF rfl hc24 ?_
          refine WP.exit ?_
          obtain rfl := Option.some.inj hy8
          obtain rfl := hy9
          exact ⟨H21, h3, S⟩
  · rintro f w ⟨H4, h6, S⟩
    refine WP.seq ?_
    obtain ⟨s_30, hr36, h⟩ := bindE h
    refine WP.cut (fun f w => ∃ (H29 : Hp), f 0 = (str s_30) ∧ St w0 H0 w H29 []) ?_ ?_
    · refine WP.block ?_
      refine WP.loopM (ref01_Trim_L1) (fun s f w => match s with | s_27 => ∃ (H26 : Hp), f 0 = (str s_27) ∧ St w0 H0 w H26 []) s_5 s_30 hr36 ?_ ?_
      · exact ⟨H4, h6, S⟩
      · intro s_27 f w hI y32 hy33 hy34
        obtain ⟨H26, h28, S⟩ := hI
        refine WP.seq ?_
        refine WP.seq ?_
        refine WP.region ?_
        refine WL.valw (R.mv (v := (str s_27)) h28) ?_
        refine WL.valw (R.lenS (a := s_27) rfl Tryd.underlying9) ?_
        refine WL.valw (R.gtr rfl rfl) ?_
        refine WL.valw (R.mv (v := (boo (decide (0 < (s_27.length : Int))))) rfl) ?_
        obtain ⟨b45, hg38, hy33⟩ := bindE hy33
        refine WL.grpw 7 [17, 18, 19, 20, 21, 22] 23 (boo b45) (fun w => ∃ H' : Hp, H26.le H' ∧ St w0 H0 w H' []) ?_ ?_
        · rcases boolE (decide (0 < (s_27.length : Int))) with hb37 | hb37
          · replace hg38 := condT hg38 hb37
            refine WL.gyes rfl rfl hb37 ?_
            refine WL.valw (R.mv (v := (str s_27)) h28) ?_
            refine WL.gyes rfl rfl hb37 ?_
            refine WL.valw (R.mv (v := (str s_27)) h28) ?_
            refine WL.gyes rfl rfl hb37 ?_
            refine WL.valw (R.lenS (a := s_27) rfl Tryd.underlying9) ?_
            refine WL.gyes rfl rfl hb37 ?_
            refine WL.valw (R.sub rfl rfl) ?_
            refine WL.gyes rfl rfl hb37 ?_
            obtain ⟨c39, hc39, hg38⟩ := bindE hg38
            refine WL.valw (R.idxS rfl rfl Tryd.underlying9 hc39) ?_
            refine WL.gyes rfl rfl hb37 ?_
            obtain ⟨r40, hr40, hg38⟩ := bindE hg38
            refine W.call S rfl (ref01_blank_ok S.holds c39 hr40) ?_
            rintro v41 w42 H43 hle44 S rfl
            refine WL.valw (R.pickT rfl hb37 rfl) ?_
            exact WL.nil ⟨(congrArg boo (Option.some.inj hg38)), (by repeat (first | refine agree_upd rfl ?_ | refine agree_upds' rfl ?_ | exact agree_refl)), ⟨H43, hle44, S⟩⟩
          · replace hg38 := condF hg38 hb37
            refine WL.gno rfl rfl hb37 ?_
            refine WL.gno rfl rfl hb37 ?_
            refine WL.gno rfl rfl hb37 ?_
            refine WL.gno rfl rfl hb37 ?_
            refine WL.gno rfl rfl hb37 ?_
            refine WL.gno rfl rfl hb37 ?_
            refine WL.valw (R.pickF rfl hb37 rfl) ?_
            exact WL.nil ⟨(congrArg boo (Option.some.inj hg38)), (by repeat (first | refine agree_upd rfl ?_ | refine agree_upds' rfl ?_ | exact agree_refl)), ⟨H26, (Hp.le.refl _), S⟩⟩
        · intro us w47 ⟨H46, hle48, S⟩
          refine WL.nil ?_
          rcases condE hy33 with ⟨hc49, hy33⟩ | ⟨hc49, hy33⟩
          · refine WP.condT rfl hc49 ?_
            refine WP.skip ?_
            refine WP.block ?_
            refine WP.region ?_
            refine WL.valw (R.mv (v := (str s_27)) h28) ?_
            refine WL.valw (R.mv (v := (str s_27)) h28) ?_
            refine WL.valw (R.lenS (a := s_27) rfl Tryd.underlying9) ?_
            refine WL.valw (R.sub rfl rfl) ?_
            obtain ⟨s50, hs50, hy33⟩ := bindE hy33
            refine WL.valw (R.subShi rfl rfl Tryd.underlying9 hs50) ?_
            refine WL.valw (R.as (v := (str s50)) rfl) ?_
            refine WL.nil ?_
            obtain rfl := Option.some.inj hy33
            exact ⟨rfl, ⟨H46, rfl, S⟩⟩
          · refine WP.condF rfl hc49 ?_
            refine WP.exit ?_
            obtain rfl := Option.some.inj hy33
            obtain rfl := hy34
            exact ⟨H46, h28, S⟩
    · rintro f w ⟨H29, h31, S⟩
      refine WP.seq ?_
      refine WP.region ?_
      refine WL.valw (R.mv (v := (str s_30)) h31) ?_
      refine WL.valw (R.as (v := (str s_30)) rfl) ?_
      refine WL.nil ?_
      obtain rfl := Option.some.inj h
      refine WP.ret (Out.one rfl S rfl ?_)
      exact rfl
set_option maxRecDepth 10000 in
set_option maxHeartbeats 4000000 in
theorem ref01_Split_ok {w0 : World} {H0 : Hp} (hw : Holds w0 H0) (p_value : Str) {r : (List Str)} (h : ref01_Split p_value = some r) :
    Con Tryd.prog 50 [(str p_value)] w0 H0 (fun H' v => Sl (α := Str) H' v r) := by
  refine Con.mk (N := 32) Tryd.func50 rfl rfl (by kernel_rfl) rfl ?_
  have S := St.start hw
  refine WP.seq ?_
  refine WP.region ?_
  refine WL.valw (R.as (v := (.slice none 0 0)) rfl) ?_
  refine WL.nil ?_
  refine WP.seq ?_
  refine WP.region ?_
  refine WL.valw (R.as (v := (.slice none 0 0)) rfl) ?_
  refine WL.nil ?_
  refine WP.seq ?_
  refine WP.region ?_
  refine WL.valw (R.mv (v := (str p_value)) rfl) ?_
  obtain ⟨r1, hr1, h⟩ := bindE h
  refine W.call S rfl (ref01_Cut_ok S.holds p_value 44 hr1) ?_
  rintro v2 w3 H4 hle5 S R6
  refine WL.valw (R.as (v := v2) rfl) ?_
  refine WL.nil ?_
  refine WP.seq ?_
  refine WP.seq ?_
  refine WP.region ?_
  refine WL.valw (R.as (v := (int 0)) rfl) ?_
  refine WL.nil ?_
  have S := S.addNil 9 1
  obtain ⟨out_16, hr24, h⟩ := bindE h
  refine WP.cut (fun f w => ∃ (H15 : Hp) (v17 : Value), f 3 = v17 ∧ Sl (α := Str) H15 v17 out_16 ∧ St w0 H0 w H15 [.row v17 9 1 out_16.length]) ?_ ?_
  · refine WP.block ?_
    refine WP.loopM (ref01_Split_L0 r1) (fun s f w => match s with | (out_8, i_13) => ∃ (H7 : Hp) (v9 : Value), f 3 = v9 ∧ f 4 = v2 ∧ f 5 = (int i_13) ∧ Sl (α := Str) H7 v9 out_8 ∧ Sl (α := Str) H7 v2 r1 ∧ St w0 H0 w H7 [.row v9 9 1 out_8.length]) (([] : List Str), 0) out_16 hr24 ?_ ?_
    · exact ⟨H4, .slice none 0 0, rfl, rfl, rfl, Sl.nil, R6, S⟩
    · intro s f w hI y20 hy21 hy22
      obtain ⟨out_8, i_13⟩ := s
      obtain ⟨H7, v9, h11, h12, h14, R10, R6, S⟩ := hI
      refine WP.seq ?_
      refine WP.seq ?_
      refine WP.region ?_
      refine WL.valw (R.mv (v := (int i_13)) h14) ?_
      refine WL.valw (R.mv (v := v2) h12) ?_
      refine WL.valw (R.lenL (α := Str) (xs := r1) (H := H7) R6 rfl Tryd.underlying22) ?_
      refine WL.valw (R.lss rfl rfl) ?_
      refine WL.valw (R.mv (v := (boo (decide (i_13 < (r1.length : Int))))) rfl) ?_
      refine WL.grp 4 [14, 15, 16] 17 (boo ((decide (i_13 < (r1.length : Int))) && (decide ((out_8.length : Int) < 64)))) ?_ ?_
      · rcases boolE (decide (i_13 < (r1.length : Int))) with hb25 | hb25
        · refine WL.gyes rfl rfl hb25 ?_
          refine WL.valw (R.mv (v := v9) h11) ?_
          refine WL.gyes rfl rfl hb25 ?_
          refine WL.valw (R.lenL (α := Str) (xs := out_8) (H := H7) R10 rfl Tryd.underlying22) ?_
          refine WL.gyes rfl rfl hb25 ?_
          refine WL.valw (R.lss rfl rfl) ?_
          refine WL.valw (R.pickT rfl hb25 rfl) ?_
          exact WL.nil ⟨(andT hb25), (by repeat (first | refine agree_upd rfl ?_ | refine agree_upds' rfl ?_ | exact agree_refl)), rfl⟩
        · refine WL.gno rfl rfl hb25 ?_
          refine WL.gno rfl rfl hb25 ?_
          refine WL.gno rfl rfl hb25 ?_
          refine WL.valw (R.pickF rfl hb25 rfl) ?_
          exact WL.nil ⟨(andF hb25), (by repeat (first | refine agree_upd rfl ?_ | refine agree_upds' rfl ?_ | exact agree_refl)), rfl⟩
      · intro us
        refine WL.nil ?_
        rcases condE hy21 with ⟨hc27, hy21⟩ | ⟨hc27, hy21⟩
        · refine WP.condT rfl hc27 ?_
          refine WP.skip ?_
          refine WP.seq ?_
          refine WP.block ?_
          refine WP.seq ?_
          refine WP.region ?_
          refine WL.valw (R.mv (v := v2) h12) ?_
          refine WL.valw (R.mv (v := (int i_13)) h14) ?_
          obtain ⟨x28, hx28, hy21⟩ := bindE hy21
          refine W.idx (α := Str) R6 rfl rfl el22 hx28 ?_
          rintro a29 _ hA30 rfl
          refine WL.valw (R.loadH (v := (str x28)) S rfl hA30 lay9 rfl) ?_
          obtain ⟨r31, hr31, hy21⟩ := bindE hy21
          refine W.call S rfl (ref01_Trim_ok S.holds x28 hr31) ?_
          rintro v32 w33 H34 hle35 S rfl
          have R10 := Sl.mono R10 hle35
          have R6 := Sl.mono R6 hle35
          have hA30 := At.mono hA30 hle35 (by simp)
          refine WL.valw (R.as (v := (str r31)) rfl) ?_
          refine WL.nil ?_
          refine WP.seq ?_
          refine WP.region ?_
          refine WL.valw (R.mv (v := (str r31)) rfl) ?_
          refine WL.valw (R.neqS (a := r31) (b := []) rfl rfl) ?_
          refine WL.nil ?_
          rcases condE hy21 with ⟨hc36, hy21⟩ | ⟨hc36, hy21⟩
          · refine WP.condT rfl hc36 ?_
            refine WP.region ?_
            refine WL.valw (R.mv (v := v9) h11) ?_
            refine WL.valw (R.mv (v := (str r31)) rfl) ?_
            refine W.bslice (α := Str) [(str r31)] ([r31] : List Str) S el22 rfl rfl rfl (by decide) (Go.Eng.encS ⟨rfl, rfl⟩ enc0) ?_
            intro u37 w38 H39 hle40 R41 S
            have R10 := Sl.mono R10 hle40
            have R6 := Sl.mono R6 hle40
            have hA30 := At.mono hA30 hle40 (by simp)
            obtain ⟨l42, hl42, hy21⟩ := bindE hy21
            refine W.app (α := Str) (i := 1) S el22 rfl rfl rfl R10 R41 hl42 ?_
            intro v43 w44 H45 hle46 R47 S
            have R10 := Sl.mono R10 hle46
            have R6 := Sl.mono R6 hle46
            have hA30 := At.mono hA30 hle46 (by simp)
            have R41 := Sl.mono R41 hle46
            refine WL.valw (R.as (v := v43) rfl) ?_
            refine WL.nil ?_
            refine WP.region ?_
            refine WL.valw (R.mv (v := (int i_13)) h14) ?_
            refine WL.valw (R.add rfl rfl) ?_
            refine WL.valw (R.as (v := (int (wr (i_13 + 1)))) rfl) ?_
            refine WL.nil ?_
            obtain rfl := Option.some.inj hy21
            exact ⟨rfl, ⟨H45, v43, rfl, h12, rfl, R47, R6, (S.drop _ (.cons _ (.cons_cons _ .slnil)))⟩⟩
          · refine WP.condF rfl hc36 ?_
            refine WP.skip ?_
            refine WP.region ?_
            refine WL.valw (R.mv (v := (int i_13)) h14) ?_
            refine WL.valw (R.add rfl rfl) ?_
            refine WL.valw (R.as (v := (int (wr (i_13 + 1)))) rfl) ?_
            refine WL.nil ?_
            obtain rfl := Option.some.inj hy21
            exact ⟨rfl, ⟨H34, v9, h11, h12, rfl, R10, R6, S⟩⟩
        · refine WP.condF rfl hc27 ?_
          refine WP.exit ?_
          obtain rfl := Option.some.inj hy21
          obtain rfl := hy22
          exact ⟨H7, v9, h11, R10, S⟩
  · rintro f w ⟨H15, v17, h19, R18, S⟩
    refine WP.seq ?_
    refine WP.region ?_
    refine WL.valw (R.mv (v := v17) h19) ?_
    refine WL.valw (R.as (v := v17) rfl) ?_
    refine WL.nil ?_
    obtain rfl := Option.some.inj h
    refine WP.ret (Out.one rfl S rfl ?_)
    exact R18
set_option maxRecDepth 10000 in
set_option maxHeartbeats 4000000 in
theorem ref01_All_ok {w0 : World} {H0 : Hp} (hw : Holds w0 H0) (p_l : (List GField)) (p_name : Str) {vp_l : Value} (Rp_l : Sl (α := GField) H0 vp_l p_l) {r : (List Str)} (h : ref01_All p_l p_name = some r) :
    Con Tryd.prog 23 [vp_l, (str p_name)] w0 H0 (fun H' v => Sl (α := Str) H' v r) := by
  refine Con.mk (N := 43) Tryd.func23 rfl rfl (by kernel_rfl) rfl ?_
  have S := St.start hw
  refine WP.seq ?_
  refine WP.region ?_
  refine WL.valw (R.as (v := (.slice none 0 0)) rfl) ?_
  refine WL.nil ?_
  refine WP.seq ?_
  refine WP.region ?_
  refine WL.valw (R.as (v := (.slice none 0 0)) rfl) ?_
  refine WL.nil ?_
  refine WP.seq ?_
  refine WP.region ?_
  refine WL.valw (R.mv (v := vp_l) rfl) ?_
  refine WL.valw (R.mv (v := (str p_name)) rfl) ?_
  obtain ⟨r1, hr1, h⟩ := bindE h
  refine W.call S rfl (ref01_Get_ok S.holds p_l p_name Rp_l hr1) ?_
  rintro v2 w3 H4 hle5 S R6
  have Rp_l := Sl.mono Rp_l hle5
  refine WL.valw (R.as (v := v2) rfl) ?_
  refine WL.nil ?_
  refine WP.seq ?_
  refine WP.seq ?_
  refine WP.region ?_
  refine WL.valw (R.as (v := (int 0)) rfl) ?_
  refine WL.nil ?_
  have S := S.addNil 9 1
  obtain ⟨out_16, hr24, h⟩ := bindE h
  refine WP.cut (fun f w => ∃ (H15 : Hp) (v17 : Value), f 5 = v17 ∧ Sl (α := Str) H15 v17 out_16 ∧ St w0 H0 w H15 [.row v17 9 1 out_16.length]) ?_ ?_
  · refine WP.block ?_
    refine WP.loopM (ref01_All_L1 r1) (fun s f w => match s with | (out_8, i_13) => ∃ (H7 : Hp) (v9 : Value), f 5 = v9 ∧ f 6 = v2 ∧ f 7 = (int i_13) ∧ Sl (α := Str) H7 v9 out_8 ∧ Sl (α := Str) H7 v2 r1 ∧ St w0 H0 w H7 [.row v9 9 1 out_8.length]) (([] : List Str), 0) out_16 hr24 ?_ ?_
    · exact ⟨H4, .slice none 0 0, rfl, rfl, rfl, Sl.nil, R6, S⟩
    · intro s f w hI y20 hy21 hy22
      obtain ⟨out_8, i_13⟩ := s
      obtain ⟨H7, v9, h11, h12, h14, R10, R6, S⟩ := hI
      refine WP.seq ?_
      refine WP.seq ?_
      refine WP.region ?_
      refine WL.valw (R.mv (v := (int i_13)) h14) ?_
      refine WL.valw (R.mv (v := v2) h12) ?_
      refine WL.valw (R.lenL (α := Str) (xs := r1) (H := H7) R6 rfl Tryd.underlying22) ?_
      refine WL.valw (R.lss rfl rfl) ?_
      refine WL.nil ?_
      rcases condE hy21 with ⟨hc25, hy21⟩ | ⟨hc25, hy21⟩
      · refine WP.condT rfl hc25 ?_
        refine WP.skip ?_
        refine WP.seq ?_
        refine WP.block ?_
        refine WP.seq ?_
        refine WP.region ?_
        refine WL.valw (R.mv (v := v2) h12) ?_
        refine WL.valw (R.mv (v := (int i_13)) h14) ?_
        obtain ⟨x26, hx26, hy21⟩ := bindE hy21
        refine W.idx (α := Str) R6 rfl rfl el22 hx26 ?_
        rintro a27 _ hA28 rfl
        refine WL.valw (R.loadH (v := (str x26)) S rfl hA28 lay9 rfl) ?_
        obtain ⟨r29, hr29, hy21⟩ := bindE hy21
        refine W.call S rfl (ref01_Split_ok S.holds x26 hr29) ?_
        rintro v30 w31 H32 hle33 S R34
        have R10 := Sl.mono R10 hle33
        have R6 := Sl.mono R6 hle33
        have hA28 := At.mono hA28 hle33 (by simp)
        refine WL.valw (R.as (v := v30) rfl) ?_
        refine WL.nil ?_
        refine WP.seq ?_
        refine WP.region ?_
        refine WL.valw (R.as (v := (int 0)) rfl) ?_
        refine WL.nil ?_
        obtain ⟨out_46, hr56, hy21⟩ := bindE hy21
        refine WP.cut (fun f w => ∃ (H45 : Hp) (v47 : Value), f 5 = v47 ∧ f 6 = v2 ∧ f 7 = (int i_13) ∧ Sl (α := Str) H45 v47 out_46 ∧ Sl (α := Str) H45 v2 r1 ∧ St w0 H0 w H45 [.row v47 9 1 out_46.length]) ?_ ?_
        · refine WP.block ?_
          refine WP.loopM (ref01_All_L0 r29) (fun s f w => match s with | (out_36, k_43) => ∃ (H35 : Hp) (v37 : Value), f 5 = v37 ∧ f 6 = v2 ∧ f 7 = (int i_13) ∧ f 8 = v30 ∧ f 9 = (int k_43) ∧ Sl (α := Str) H35 v37 out_36 ∧ Sl (α := Str) H35 v2 r1 ∧ Sl (α := Str) H35 v30 r29 ∧ St w0 H0 w H35 [.row v37 9 1 out_36.length]) (out_8, 0) out_46 hr56 ?_ ?_
          · exact ⟨H32, v9, h11, h12, h14, rfl, rfl, R10, R6, R34, S⟩
          · intro s f w hI y52 hy53 hy54
            obtain ⟨out_36, k_43⟩ := s
            obtain ⟨H35, v37, h39, h40, h41, h42, h44, R38, R6, R34, S⟩ := hI
            refine WP.seq ?_
            refine WP.seq ?_
            refine WP.region ?_
            refine WL.valw (R.mv (v := (int k_43)) h44) ?_
            refine WL.valw (R.mv (v := v30) h42) ?_
            refine WL.valw (R.lenL (α := Str) (xs := r29) (H := H35) R34 rfl Tryd.underlying22) ?_
            refine WL.valw (R.lss rfl rfl) ?_
            refine WL.valw (R.mv (v := (boo (decide (k_43 < (r29.length : Int))))) rfl) ?_
            refine WL.grp 4 [29, 30, 31] 32 (boo ((decide (k_43 < (r29.length : Int))) && (decide ((out_36.length : Int) < 64)))) ?_ ?_
            · rcases boolE (decide (k_43 < (r29.length : Int))) with hb57 | hb57
              · refine WL.gyes rfl rfl hb57 ?_
                refine WL.valw (R.mv (v := v37) h39) ?_
                refine WL.gyes rfl rfl hb57 ?_
                refine WL.valw (R.lenL (α := Str) (xs := out_36) (H := H35) R38 rfl Tryd.underlying22) ?_
                refine WL.gyes rfl rfl hb57 ?_
                refine WL.valw (R.lss rfl rfl) ?_
                refine WL.valw (R.pickT rfl hb57 rfl) ?_
                exact WL.nil ⟨(andT hb57), (by repeat (first | refine agree_upd rfl ?_ | refine agree_upds' rfl ?_ | exact agree_refl)), rfl⟩
              · refine WL.gno rfl rfl hb57 ?_
                refine WL.gno rfl rfl hb57 ?_
                refine WL.gno rfl rfl hb57 ?_
                refine WL.valw (R.pickF rfl hb57 rfl) ?_
                exact WL.nil ⟨(andF hb57), (by repeat (first | refine agree_upd rfl ?_ | refine agree_upds' rfl ?_ | exact agree_refl)), rfl⟩
            · intro us
              refine WL.nil ?_
              rcases condE hy53 with ⟨hc59, hy53⟩ | ⟨hc59, hy53⟩
              · refine WP.condT rfl hc59 ?_
                refine WP.skip ?_
                refine WP.seq ?_
                refine WP.block ?_
                refine WP.region ?_
                refine WL.valw (R.mv (v := v37) h39) ?_
                refine WL.valw (R.mv (v := v30) h42) ?_
                refine WL.valw (R.mv (v := (int k_43)) h44) ?_
                obtain ⟨x60, hx60, hy53⟩ := bindE hy53
                refine W.idx (α := Str) R34 rfl rfl el22 hx60 ?_
                rintro a61 _ hA62 rfl
                refine WL.valw (R.loadH (v := (str x60)) S rfl hA62 lay9 rfl) ?_
                refine W.bslice (α := Str) [(str x60)] ([x60] : List Str) S el22 rfl rfl rfl (by decide) (Go.Eng.encS ⟨rfl, rfl⟩ enc0) ?_
                intro u63 w64 H65 hle66 R67 S
                have R38 := Sl.mono R38 hle66
                have R6 := Sl.mono R6 hle66
                have R34 := Sl.mono R34 hle66
                have hA62 := At.mono hA62 hle66 (by simp)
                obtain ⟨l68, hl68, hy53⟩ := bindE hy53
                refine W.app (α := Str) (i := 1) S el22 rfl rfl rfl R38 R67 hl68 ?_
                intro v69 w70 H71 hle72 R73 S
                have R38 := Sl.mono R38 hle72
                have R6 := Sl.mono R6 hle72
                have R34 := Sl.mono R34 hle72
                have hA62 := At.mono hA62 hle72 (by simp)
                have R67 := Sl.mono R67 hle72
                refine WL.valw (R.as (v := v69) rfl) ?_
                refine WL.nil ?_
                refine WP.region ?_
                refine WL.valw (R.mv (v := (int k_43)) h44) ?_
                refine WL.valw (R.add rfl rfl) ?_
                refine WL.valw (R.as (v := (int (wr (k_43 + 1)))) rfl) ?_
                refine WL.nil ?_
                obtain rfl := Option.some.inj hy53
                exact ⟨rfl, ⟨H71, v69, rfl, h40, h41, h42, rfl, R73, R6, R34, (S.drop _ (.cons _ (.cons_cons _ .slnil)))⟩⟩
              · refine WP.condF rfl hc59 ?_
                refine WP.exit ?_
                obtain rfl := Option.some.inj hy53
                obtain rfl := hy54
                exact ⟨H35, v37, h39, h40, h41, R38, R6, S⟩
        · rintro f w ⟨H45, v47, h49, h50, h51, R48, R6, S⟩
          refine WP.region ?_
          refine WL.valw (R.mv (v := (int i_13)) h51) ?_
          refine WL.valw (R.add rfl rfl) ?_
          refine WL.valw (R.as (v := (int (wr (i_13 + 1)))) rfl) ?_
          refine WL.nil ?_
          obtain rfl := Option.some.inj hy21
          exact ⟨rfl, ⟨H45, v47, h49, h50, rfl, R48, R6, S⟩⟩
      · refine WP.condF rfl hc25 ?_
        refine WP.exit ?_
        obtain rfl := Option.some.inj hy21
        obtain rfl := hy22
        exact ⟨H7, v9, h11, R10, S⟩
  · rintro f w ⟨H15, v17, h19, R18, S⟩
    refine WP.seq ?_
    refine WP.region ?_
    refine WL.valw (R.mv (v := v17) h19) ?_
    refine WL.valw (R.as (v := v17) rfl) ?_
    refine WL.nil ?_
    obtain rfl := Option.some.inj h
    refine WP.ret (Out.one rfl S rfl ?_)
    exact R18
set_option maxRecDepth 10000 in
set_option maxHeartbeats 4000000 in
theorem ref01_Join_ok {w0 : World} {H0 : Hp} (hw : Holds w0 H0) (p_members : (List Str)) {vp_members : Value} (Rp_members : Sl (α := Str) H0 vp_members p_members) {r : Str} (h : ref01_Join p_members = some r) :
    Con Tryd.prog 43 [vp_members] w0 H0 (fun H' v => v = (str r)) := by
  refine Con.mk (N := 22) Tryd.func43 rfl rfl (by kernel_rfl) rfl ?_
  have S := St.start hw
  refine WP.seq ?_
  refine WP.region ?_
  refine WL.valw (R.as (v := (str [])) rfl) ?_
  refine WL.nil ?_
  refine WP.seq ?_
  refine WP.region ?_
  refine WL.valw (R.as (v := (str [])) rfl) ?_
  refine WL.nil ?_
  refine WP.seq ?_
  refine WP.seq ?_
  refine WP.region ?_
  refine WL.valw (R.as (v := (int 0)) rfl) ?_
  refine WL.nil ?_
  obtain ⟨s_8, hr14, h⟩ := bindE h
  refine WP.cut (fun f w => ∃ (H7 : Hp), f 3 = (str s_8) ∧ St w0 H0 w H7 []) ?_ ?_
  · refine WP.block ?_
    refine WP.loopM (ref01_Join_L0 p_members) (fun s f w => match s with | (s_3, i_5) => ∃ (H1 : Hp), f 0 = vp_members ∧ f 3 = (str s_3) ∧ f 4 = (int i_5) ∧ Sl (α := Str) H1 vp_members p_members ∧ St w0 H0 w H1 []) ([], 0) s_8 hr14 ?_ ?_
    · exact ⟨H0, rfl, rfl, rfl, Rp_members, S⟩
    · intro s f w hI y10 hy11 hy12
      obtain ⟨s_3, i_5⟩ := s
      obtain ⟨H1, h2, h4, h6, Rp_members, S⟩ := hI
      refine WP.seq ?_
      refine WP.seq ?_
      refine WP.region ?_
      refine WL.valw (R.mv (v := (int i_5)) h6) ?_
      refine WL.valw (R.mv (v := vp_members) h2) ?_
      refine WL.valw (R.lenL (α := Str) (xs := p_members) (H := H1) Rp_members rfl Tryd.underlying22) ?_
      refine WL.valw (R.lss rfl rfl) ?_
      refine WL.nil ?_
      rcases condE hy11 with ⟨hc15, hy11⟩ | ⟨hc15, hy11⟩
      · refine WP.condT rfl hc15 ?_
        refine WP.skip ?_
        refine WP.seq ?_
        refine WP.block ?_
        refine WP.seq ?_
        refine WP.seq ?_
        refine WP.region ?_
        refine WL.valw (R.mv (v := (int i_5)) h6) ?_
        refine WL.valw (R.gtr rfl rfl) ?_
        refine WL.nil ?_
        obtain ⟨s_18, hj21, hy11⟩ := bindE hy11
        refine WP.cut (fun f w => ∃ (H16 : Hp), f 0 = vp_members ∧ f 3 = (str s_18) ∧ f 4 = (int i_5) ∧ Sl (α := Str) H16 vp_members p_members ∧ St w0 H0 w H16 []) ?_ ?_
        · rcases condE hj21 with ⟨hc23, hj21⟩ | ⟨hc23, hj21⟩
          · refine WP.condT rfl hc23 ?_
            refine WP.region ?_
            refine WL.valw (R.mv (v := (str s_3)) h4) ?_
            obtain ⟨s24, hs24, hj21⟩ := bindE hj21
            refine WL.valw (R.cat (a := s_3) (b := [44, 32]) rfl rfl hs24) ?_
            refine WL.valw (R.as (v := (str s24)) rfl) ?_
            refine WL.nil ?_
            obtain rfl := Option.some.inj hj21
            exact ⟨H1, h2, rfl, h6, Rp_members, S⟩
          · refine WP.condF rfl hc23 ?_
            refine WP.skip ?_
            obtain rfl := Option.some.inj hj21
            exact ⟨H1, h2, h4, h6, Rp_members, S⟩
        · rintro f w ⟨H16, h17, h19, h20, Rp_members, S⟩
          refine WP.region ?_
          refine WL.valw (R.mv (v := (str s_18)) h19) ?_
          refine WL.valw (R.mv (v := vp_members) h17) ?_
          refine WL.valw (R.mv (v := (int i_5)) h20) ?_
          obtain ⟨x25, hx25, hy11⟩ := bindE hy11
          refine W.idx (α := Str) Rp_members rfl rfl el22 hx25 ?_
          rintro a26 _ hA27 rfl
          refine WL.valw (R.loadH (v := (str x25)) S rfl hA27 lay9 rfl) ?_
          obtain ⟨s28, hs28, hy11⟩ := bindE hy11
          refine WL.valw (R.cat (a := s_18) (b := x25) rfl rfl hs28) ?_
          refine WL.valw (R.as (v := (str s28)) rfl) ?_
          refine WL.nil ?_
          refine WP.region ?_
          refine WL.valw (R.mv (v := (int i_5)) h20) ?_
          refine WL.valw (R.add rfl rfl) ?_
          refine WL.valw (R.as (v := (int (wr (i_5 + 1)))) rfl) ?_
          refine WL.nil ?_
          obtain rfl := Option.some.inj hy11
          exact ⟨rfl, ⟨H16, h17, rfl, rfl, Rp_members, S⟩⟩
      · refine WP.condF rfl hc15 ?_
        refine WP.exit ?_
        obtain rfl := Option.some.inj hy11
        obtain rfl := hy12
        exact ⟨H1, h4, S⟩
  · rintro f w ⟨H7, h9, S⟩
    refine WP.seq ?_
    refine WP.region ?_
    refine WL.valw (R.mv (v := (str s_8)) h9) ?_
    refine WL.valw (R.as (v := (str s_8)) rfl) ?_
    refine WL.nil ?_
    obtain rfl := Option.some.inj h
    refine WP.ret (Out.one rfl S rfl ?_)
    exact rfl
set_option maxRecDepth 10000 in
set_option maxHeartbeats 4000000 in
theorem ref19_VaryValue_ok {w0 : World} {H0 : Hp} (hw : Holds w0 H0) (p_name : Str) (p_l : (List GField)) {vp_l : Value} (Rp_l : Sl (α := GField) H0 vp_l p_l) {r : Str} (h : ref19_VaryValue p_name p_l = some r) :
    Con Tryd.prog 11 [(str p_name), vp_l] w0 H0 (fun H' v => v = (str r)) := by
  refine Con.mk (N := 29) Tryd.func11 rfl rfl (by kernel_rfl) rfl ?_
  have S := St.start hw
  refine WP.seq ?_
  refine WP.region ?_
  refine WL.valw (R.as (v := (str [])) rfl) ?_
  refine WL.nil ?_
  refine WP.seq ?_
  refine WP.region ?_
  refine WL.valw (R.mv (v := vp_l) rfl) ?_
  refine WL.valw (R.mv (v := (str p_name)) rfl) ?_
  obtain ⟨r1, hr1, h⟩ := bindE h
  refine W.call S rfl (ref01_Get_ok S.holds p_l p_name Rp_l hr1) ?_
  rintro v2 w3 H4 hle5 S R6
  have Rp_l := Sl.mono Rp_l hle5
  refine WL.valw (R.as (v := v2) rfl) ?_
  refine WL.nil ?_
  refine WP.seq ?_
  refine WP.seq ?_
  refine WP.region ?_
  refine WL.valw (R.mv (v := v2) rfl) ?_
  refine WL.valw (R.lenL (α := Str) (xs := r1) (H := H4) R6 rfl Tryd.underlying22) ?_
  refine WL.valw (R.eql rfl rfl) ?_
  refine WL.nil ?_
  rcases condE h with ⟨hc7, h⟩ | ⟨hc7, h⟩
  · refine WP.condT rfl hc7 ?_
    refine WP.seq ?_
    refine WP.region ?_
    refine WL.valw (R.as (v := (str [])) rfl) ?_
    refine WL.nil ?_
    obtain rfl := Option.some.inj h
    refine WP.ret (Out.one rfl S rfl ?_)
    exact rfl
  · refine WP.condF rfl hc7 ?_
    refine WP.skip ?_
    refine WP.seq ?_
    refine WP.seq ?_
    refine WP.region ?_
    refine WL.valw (R.mv (v := (str p_name)) rfl) ?_
    obtain ⟨r8, hr8, h⟩ := bindE h
    refine W.call S rfl (ref10_Kind_ok S.holds p_name hr8) ?_
    rintro v9 w10 H11 hle12 S rfl
    have Rp_l := Sl.mono Rp_l hle12
    have R6 := Sl.mono R6 hle12
    refine WL.valw (R.neq rfl rfl) ?_
    refine WL.nil ?_
    obtain ⟨j16, hj15, h⟩ := bindE h
    refine WP.cut (fun f w => match j16 with | .inl _ => ∃ (H13 : Hp), f 5 = v2 ∧ Sl (α := Str) H13 v2 r1 ∧ St w0 H0 w H13 [] | .inr _ => False) ?_ ?_
    · rcases condE hj15 with ⟨hc17, hj15⟩ | ⟨hc17, hj15⟩
      · refine WP.condT rfl hc17 ?_
        refine WP.seq ?_
        refine WP.region ?_
        refine WL.valw (R.mv (v := vp_l) rfl) ?_
        refine WL.valw (R.mv (v := (str p_name)) rfl) ?_
        obtain ⟨r18, hr18, hj15⟩ := bindE hj15
        refine W.call S rfl (ref01_All_ok S.holds p_l p_name Rp_l hr18) ?_
        rintro v19 w20 H21 hle22 S R23
        have Rp_l := Sl.mono Rp_l hle22
        have R6 := Sl.mono R6 hle22
        refine WL.valw (R.as (v := v19) rfl) ?_
        refine WL.nil ?_
        refine WP.seq ?_
        refine WP.region ?_
        refine WL.valw (R.mv (v := v19) rfl) ?_
        refine WL.valw (R.lenL (α := Str) (xs := r18) (H := H21) R23 rfl Tryd.underlying22) ?_
        refine WL.valw (R.lss rfl rfl) ?_
        refine WL.nil ?_
        rcases condE hj15 with ⟨hc24, hj15⟩ | ⟨hc24, hj15⟩
        · refine WP.condT rfl hc24 ?_
          refine WP.seq ?_
          refine WP.region ?_
          refine WL.valw (R.mv (v := v19) rfl) ?_
          obtain ⟨r25, hr25, hj15⟩ := bindE hj15
          refine W.call S rfl (ref01_Join_ok S.holds r18 R23 hr25) ?_
          rintro v26 w27 H28 hle29 S rfl
          have Rp_l := Sl.mono Rp_l hle29
          have R6 := Sl.mono R6 hle29
          have R23 := Sl.mono R23 hle29
          obtain ⟨r30, hr30, hj15⟩ := bindE hj15
          refine W.call S rfl (ref01_Lower_ok S.holds r25 hr30) ?_
          rintro v31 w32 H33 hle34 S rfl
          have Rp_l := Sl.mono Rp_l hle34
          have R6 := Sl.mono R6 hle34
          have R23 := Sl.mono R23 hle34
          obtain ⟨s35, hs35, hj15⟩ := bindE hj15
          refine WL.valw (R.cat (a := [61]) (b := r30) rfl rfl hs35) ?_
          refine WL.valw (R.as (v := (str s35)) rfl) ?_
          refine WL.nil ?_
          obtain rfl := Option.some.inj hj15
          obtain rfl := Option.some.inj h
          refine WP.ret (Out.one rfl S rfl ?_)
          exact rfl
        · refine WP.condF rfl hc24 ?_
          refine WP.skip ?_
          obtain rfl := Option.some.inj hj15
          exact ⟨H21, rfl, R6, S⟩
      · refine WP.condF rfl hc17 ?_
        refine WP.skip ?_
        obtain rfl := Option.some.inj hj15
        exact ⟨H11, rfl, R6, S⟩
    · intro f w hM
      rcases j16 with _ | e
      · obtain ⟨H13, h14, R6, S⟩ := hM
        refine WP.seq ?_
        refine WP.region ?_
        refine WL.valw (R.mv (v := v2) h14) ?_
        obtain ⟨r36, hr36, h⟩ := bindE h
        refine W.call S rfl (ref01_Join_ok S.holds r1 R6 hr36) ?_
        rintro v37 w38 H39 hle40 S rfl
        have R6 := Sl.mono R6 hle40
        obtain ⟨s41, hs41, h⟩ := bindE h
        refine WL.valw (R.cat (a := [61]) (b := r36) rfl rfl hs41) ?_
        refine WL.valw (R.as (v := (str s41)) rfl) ?_
        refine WL.nil ?_
        obtain rfl := Option.some.inj h
        refine WP.ret (Out.one rfl S rfl ?_)
        exact rfl
      · exact hM.elim
set_option maxRecDepth 10000 in
set_option maxHeartbeats 4000000 in
theorem vary_Snapshot_ok {w0 : World} {H0 : Hp} (hw : Holds w0 H0) (p_names : (List Str)) (p_l : (List GField)) {vp_names : Value} {vp_l : Value} (Rp_names : Sl (α := Str) H0 vp_names p_names) (Rp_l : Sl (α := GField) H0 vp_l p_l) {r : (List Str)} (h : vary_Snapshot p_names p_l = some r) :
    Con Tryd.prog 13 [vp_names, vp_l] w0 H0 (fun H' v => Sl (α := Str) H' v r) := by
  refine Con.mk (N := 22) Tryd.func13 rfl rfl (by kernel_rfl) rfl ?_
  have S := St.start hw
  refine WP.seq ?_
  refine WP.region ?_
  refine WL.valw (R.as (v := (.slice none 0 0)) rfl) ?_
  refine WL.nil ?_
  refine WP.seq ?_
  refine WP.region ?_
  refine WL.valw (R.as (v := (.slice none 0 0)) rfl) ?_
  refine WL.nil ?_
  refine WP.seq ?_
  refine WP.seq ?_
  refine WP.region ?_
  refine WL.valw (R.mv (v := vp_names) rfl) ?_
  refine WL.valw (R.lenL (α := Str) (xs := p_names) (H := H0) Rp_names rfl Tryd.underlying22) ?_
  refine WL.valw (R.mv (v := (int 0)) rfl) ?_
  refine WL.nil ?_
  have S := S.addNil 9 1
  obtain ⟨out_12, hr20, h⟩ := bindE h
  refine WP.cut (fun f w => ∃ (H11 : Hp) (v13 : Value), f 5 = v13 ∧ Sl (α := Str) H11 v13 out_12 ∧ St w0 H0 w H11 [.row v13 9 1 out_12.length]) ?_ ?_
  · refine WP.block ?_
    refine WP.loopM (vary_Snapshot_L0 p_names p_l) (fun s f w => match s with | (out_3, y_9) => ∃ (H1 : Hp) (v4 : Value), f 1 = vp_l ∧ f 5 = v4 ∧ f 8 = vp_names ∧ f 9 = (int (p_names.length : Int)) ∧ f 10 = (int y_9) ∧ Sl (α := GField) H1 vp_l p_l ∧ Sl (α := Str) H1 v4 out_3 ∧ Sl (α := Str) H1 vp_names p_names ∧ St w0 H0 w H1 [.row v4 9 1 out_3.length]) (([] : List Str), 0) out_12 hr20 ?_ ?_
    · exact ⟨H0, .slice none 0 0, rfl, rfl, rfl, rfl, rfl, Rp_l, Sl.nil, Rp_names, S⟩
    · intro s f w hI y16 hy17 hy18
      obtain ⟨out_3, y_9⟩ := s
      obtain ⟨H1, v4, h2, h6, h7, h8, h10, Rp_l, R5, Rp_names, S⟩ := hI
      refine WP.seq ?_
      refine WP.region ?_
      refine WL.valw (R.lss h10 h8) ?_
      refine WL.nil ?_
      refine WP.seq ?_
      rcases condE hy17 with ⟨hc21, hy17⟩ | ⟨hc21, hy17⟩
      · refine WP.condT rfl hc21 ?_
        refine WP.skip ?_
        refine WP.seq ?_
        refine WP.block ?_
        refine WP.seq ?_
        refine WP.region ?_
        obtain ⟨x22, hx22, hy17⟩ := bindE hy17
        refine W.idx (α := Str) Rp_names h7 h10 el22 hx22 ?_
        rintro a23 _ hA24 rfl
        refine WL.valw (R.loadH (v := (str x22)) S rfl hA24 lay9 rfl) ?_
        refine WL.valw (R.as (v := (str x22)) rfl) ?_
        refine WL.nil ?_
        refine WP.region ?_
        refine WL.valw (R.mv (v := v4) h6) ?_
        refine WL.valw (R.mv (v := (str x22)) rfl) ?_
        refine WL.valw (R.mv (v := vp_l) h2) ?_
        obtain ⟨r25, hr25, hy17⟩ := bindE hy17
        refine W.call S rfl (vary_Value_ok S.holds x22 p_l Rp_l hr25) ?_
        rintro v26 w27 H28 hle29 S rfl
        have Rp_l := Sl.mono Rp_l hle29
        have R5 := Sl.mono R5 hle29
        have Rp_names := Sl.mono Rp_names hle29
        have hA24 := At.mono hA24 hle29 (by simp)
        refine W.bslice (α := Str) [(str r25)] ([r25] : List Str) S el22 rfl rfl rfl (by decide) (Go.Eng.encS ⟨rfl, rfl⟩ enc0) ?_
        intro u30 w31 H32 hle33 R34 S
        have Rp_l := Sl.mono Rp_l hle33
        have R5 := Sl.mono R5 hle33
        have Rp_names := Sl.mono Rp_names hle33
        have hA24 := At.mono hA24 hle33 (by simp)
        obtain ⟨l35, hl35, hy17⟩ := bindE hy17
        refine W.app (α := Str) (i := 1) S el22 rfl rfl rfl R5 R34 hl35 ?_
        intro v36 w37 H38 hle39 R40 S
        have Rp_l := Sl.mono Rp_l hle39
        have R5 := Sl.mono R5 hle39
        have Rp_names := Sl.mono Rp_names hle39
        have hA24 := At.mono hA24 hle39 (by simp)
        have R34 := Sl.mono R34 hle39
        refine WL.valw (R.as (v := v36) rfl) ?_
        refine WL.nil ?_
        refine WP.region ?_
        refine WL.valw (R.add h10 rfl) ?_
        refine WL.valw (R.mv (v := (int (wr (y_9 + 1)))) rfl) ?_
        refine WL.nil ?_
        obtain rfl := Option.some.inj hy17
        exact ⟨rfl, ⟨H38, v36, h2, rfl, h7, h8, rfl, Rp_l, R40, Rp_names, (S.drop _ (.cons _ (.cons_cons _ .slnil)))⟩⟩
      · refine WP.condF rfl hc21 ?_
        refine WP.exit ?_
        obtain rfl := Option.some.inj hy17
        obtain rfl := hy18
        exact ⟨H1, v4, h6, R5, S⟩
  · rintro f w ⟨H11, v13, h15, R14, S⟩
    refine WP.seq ?_
    refine WP.region ?_
    refine WL.valw (R.mv (v := v13) h15) ?_
    refine WL.valw (R.as (v := v13) rfl) ?_
    refine WL.nil ?_
    obtain rfl := Option.some.inj h
    refine WP.ret (Out.one rfl S rfl ?_)
    exact R14
end Go.Proofs
