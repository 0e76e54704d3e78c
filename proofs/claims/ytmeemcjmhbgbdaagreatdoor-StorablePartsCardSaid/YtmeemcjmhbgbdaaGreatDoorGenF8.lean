/- A part of the proof of laws of the seat: written by program over the translation. -/
import Derived.Test.YtmeemcjmhbgbdaaGreatDoorGenF7
namespace Go.Proofs
open Go.Eng Go.Eng.Pure
set_option linter.unusedVariables false
set_option maxRecDepth 10000 in
set_option maxHeartbeats 4000000 in
theorem ref19_tagText_ok {w0 : World} {H0 : Hp} (hw : Holds w0 H0) (p_s : Str) {r : Bool} (h : ref19_tagText p_s = some r) :
    Con Tryz.prog 77 [(str p_s)] w0 H0 (fun H' v => v = (boo r)) := by
  refine Con.mk (N := 26) Tryz.func77 rfl rfl (by kernel_rfl) rfl ?_
  have S := St.start hw
  refine WP.seq ?_
  refine WP.region ?_
  refine WL.valw (R.as (v := (boo false)) rfl) ?_
  refine WL.nil ?_
  refine WP.seq ?_
  refine WP.seq ?_
  refine WP.region ?_
  refine WL.valw (R.as (v := (int 0)) rfl) ?_
  refine WL.nil ?_
  obtain ⟨r9, hr10, h⟩ := bindE h
  refine WP.cut (fun f w => match r9 with | .inl _ => ∃ (H5 : Hp), St w0 H0 w H5 [] | .inr _ => False) ?_ ?_
  · refine WP.block ?_
    refine WP.loopM (ref19_tagText_L0 p_s) (fun s f w => match s with | i_3 => ∃ (H1 : Hp), f 0 = (str p_s) ∧ f 3 = (int i_3) ∧ St w0 H0 w H1 []) 0 r9 hr10 ?_ ?_
    · exact ⟨H0, rfl, rfl, S⟩
    · intro i_3 f w hI y6 hy7 hy8
      obtain ⟨H1, h2, h4, S⟩ := hI
      refine WP.seq ?_
      refine WP.seq ?_
      refine WP.region ?_
      refine WL.valw (R.mv (v := (int i_3)) h4) ?_
      refine WL.valw (R.mv (v := (str p_s)) h2) ?_
      refine WL.valw (R.lenS (a := p_s) rfl Tryz.underlying9) ?_
      refine WL.valw (R.lss rfl rfl) ?_
      refine WL.nil ?_
      rcases condE hy7 with ⟨hc11, hy7⟩ | ⟨hc11, hy7⟩
      · refine WP.condT rfl hc11 ?_
        refine WP.skip ?_
        refine WP.seq ?_
        refine WP.block ?_
        refine WP.seq ?_
        refine WP.region ?_
        refine WL.valw (R.mv (v := (str p_s)) h2) ?_
        refine WL.valw (R.mv (v := (int i_3)) h4) ?_
        obtain ⟨c12, hc12, hy7⟩ := bindE hy7
        refine WL.valw (R.idxS rfl rfl Tryz.underlying9 hc12) ?_
        refine WL.valw (R.lss8 (a := c12) (b := 33) rfl rfl) ?_
        refine WL.valw (R.mv (v := (boo (decide (c12 < 33)))) rfl) ?_
        obtain ⟨b16, hg14, hy7⟩ := bindE hy7
        refine WL.grp 5 [15, 16, 17, 18] 19 (boo b16) ?_ ?_
        · rcases boolE (decide (c12 < 33)) with hb13 | hb13
          · replace hg14 := condT hg14 hb13
            refine WL.gno rfl rfl hb13 ?_
            refine WL.gno rfl rfl hb13 ?_
            refine WL.gno rfl rfl hb13 ?_
            refine WL.gno rfl rfl hb13 ?_
            refine WL.valw (R.pickT rfl hb13 rfl) ?_
            exact WL.nil ⟨(congrArg boo (Option.some.inj hg14)), (by repeat (first | refine agree_upd rfl ?_ | refine agree_upds' rfl ?_ | exact agree_refl)), rfl⟩
          · replace hg14 := condF hg14 hb13
            refine WL.gyes rfl rfl hb13 ?_
            refine WL.valw (R.mv (v := (str p_s)) h2) ?_
            refine WL.gyes rfl rfl hb13 ?_
            refine WL.valw (R.mv (v := (int i_3)) h4) ?_
            refine WL.gyes rfl rfl hb13 ?_
            obtain ⟨c15, hc15, hg14⟩ := bindE hg14
            refine WL.valw (R.idxS rfl rfl Tryz.underlying9 hc15) ?_
            refine WL.gyes rfl rfl hb13 ?_
            refine WL.valw (R.eql8 (a := c15) (b := 34) rfl rfl) ?_
            refine WL.valw (R.pickF rfl hb13 rfl) ?_
            exact WL.nil ⟨(congrArg boo (Option.some.inj hg14)), (by repeat (first | refine agree_upd rfl ?_ | refine agree_upds' rfl ?_ | exact agree_refl)), rfl⟩
        · intro us
          refine WL.valw (R.mv (v := (boo b16)) rfl) ?_
          obtain ⟨b20, hg18, hy7⟩ := bindE hy7
          refine WL.grp 5 [21, 22, 23, 24] 25 (boo b20) ?_ ?_
          · rcases boolE b16 with hb17 | hb17
            · replace hg18 := condT hg18 hb17
              refine WL.gno rfl rfl hb17 ?_
              refine WL.gno rfl rfl hb17 ?_
              refine WL.gno rfl rfl hb17 ?_
              refine WL.gno rfl rfl hb17 ?_
              refine WL.valw (R.pickT rfl hb17 rfl) ?_
              exact WL.nil ⟨(congrArg boo (Option.some.inj hg18)), (by repeat (first | refine agree_upd rfl ?_ | refine agree_upds' rfl ?_ | exact agree_refl)), rfl⟩
            · replace hg18 := condF hg18 hb17
              refine WL.gyes rfl rfl hb17 ?_
              refine WL.valw (R.mv (v := (str p_s)) h2) ?_
              refine WL.gyes rfl rfl hb17 ?_
              refine WL.valw (R.mv (v := (int i_3)) h4) ?_
              refine WL.gyes rfl rfl hb17 ?_
              obtain ⟨c19, hc19, hg18⟩ := bindE hg18
              refine WL.valw (R.idxS rfl rfl Tryz.underlying9 hc19) ?_
              refine WL.gyes rfl rfl hb17 ?_
              refine WL.valw (R.eql8 (a := c19) (b := 127) rfl rfl) ?_
              refine WL.valw (R.pickF rfl hb17 rfl) ?_
              exact WL.nil ⟨(congrArg boo (Option.some.inj hg18)), (by repeat (first | refine agree_upd rfl ?_ | refine agree_upds' rfl ?_ | exact agree_refl)), rfl⟩
          · intro us
            refine WL.nil ?_
            rcases condE hy7 with ⟨hc21, hy7⟩ | ⟨hc21, hy7⟩
            · refine WP.condT rfl hc21 ?_
              refine WP.seq ?_
              refine WP.region ?_
              refine WL.valw (R.as (v := (boo false)) rfl) ?_
              refine WL.nil ?_
              obtain rfl := Option.some.inj hy7
              obtain rfl := hy8
              obtain rfl := Option.some.inj h
              refine WP.ret (Out.one rfl S rfl ?_)
              exact rfl
            · refine WP.condF rfl hc21 ?_
              refine WP.skip ?_
              refine WP.region ?_
              refine WL.valw (R.mv (v := (int i_3)) h4) ?_
              refine WL.valw (R.add rfl rfl) ?_
              refine WL.valw (R.as (v := (int (wr (i_3 + 1)))) rfl) ?_
              refine WL.nil ?_
              obtain rfl := Option.some.inj hy7
              exact ⟨rfl, ⟨H1, h2, rfl, S⟩⟩
      · refine WP.condF rfl hc11 ?_
        refine WP.exit ?_
        obtain rfl := Option.some.inj hy7
        obtain rfl := hy8
        exact ⟨H1, S⟩
  · intro f w hM
    rcases r9 with _ | e
    · obtain ⟨H5, S⟩ := hM
      refine WP.seq ?_
      refine WP.region ?_
      refine WL.valw (R.as (v := (boo true)) rfl) ?_
      refine WL.nil ?_
      obtain rfl := Option.some.inj h
      refine WP.ret (Out.one rfl S rfl ?_)
      exact rfl
    · exact hM.elim
set_option maxRecDepth 10000 in
set_option maxHeartbeats 4000000 in
theorem ref19_ParseETag_ok {w0 : World} {H0 : Hp} (hw : Holds w0 H0) (p_s : Str) {r : (GETag × Bool)} (h : ref19_ParseETag p_s = some r) :
    Con Tryz.prog 60 [(str p_s)] w0 H0 (fun H' v => v = (.tuple ⟨[(agg [(boo r.1.fWeak), (str r.1.fTag)]), (boo r.2)]⟩)) := by
  refine Con.mk (N := 49) Tryz.func60 rfl rfl (by kernel_rfl) rfl ?_
  have S := St.start hw
  refine WP.seq ?_
  refine WP.region ?_
  refine W.alloc [(boo false), (str [])] S zer44 ?_
  intro b1 w2 S
  refine WL.valw (R.as (v := (boo false)) rfl) ?_
  refine WL.nil ?_
  refine WP.seq ?_
  refine WP.region ?_
  refine W.alloc [(boo false), (str [])] S zer44 ?_
  intro b3 w4 S
  refine WL.nil ?_
  refine WP.seq ?_
  refine WP.seq ?_
  refine WP.region ?_
  refine WL.valw (R.mv (v := (str p_s)) rfl) ?_
  refine WL.valw (R.lenS (a := p_s) rfl Tryz.underlying9) ?_
  refine WL.valw (R.gtr rfl rfl) ?_
  refine WL.valw (R.mv (v := (boo (decide (2 < (p_s.length : Int))))) rfl) ?_
  obtain ⟨b8, hg6, h⟩ := bindE h
  refine WL.grp 4 [9, 10, 11] 12 (boo b8) ?_ ?_
  · rcases boolE (decide (2 < (p_s.length : Int))) with hb5 | hb5
    · replace hg6 := condT hg6 hb5
      refine WL.gyes rfl rfl hb5 ?_
      refine WL.valw (R.mv (v := (str p_s)) rfl) ?_
      refine WL.gyes rfl rfl hb5 ?_
      obtain ⟨s7, hs7, hg6⟩ := bindE hg6
      refine WL.valw (R.subShi rfl rfl Tryz.underlying9 hs7) ?_
      refine WL.gyes rfl rfl hb5 ?_
      refine WL.valw (R.eqlS (a := s7) (b := [87, 47]) rfl rfl) ?_
      refine WL.valw (R.pickT rfl hb5 rfl) ?_
      exact WL.nil ⟨(congrArg boo (Option.some.inj hg6)), (by repeat (first | refine agree_upd rfl ?_ | refine agree_upds' rfl ?_ | exact agree_refl)), rfl⟩
    · replace hg6 := condF hg6 hb5
      refine WL.gno rfl rfl hb5 ?_
      refine WL.gno rfl rfl hb5 ?_
      refine WL.gno rfl rfl hb5 ?_
      refine WL.valw (R.pickF rfl hb5 rfl) ?_
      exact WL.nil ⟨(congrArg boo (Option.some.inj hg6)), (by repeat (first | refine agree_upd rfl ?_ | refine agree_upds' rfl ?_ | exact agree_refl)), rfl⟩
  · intro us
    refine WL.nil ?_
    obtain ⟨⟨s_10, m14⟩, hj15, h⟩ := bindE h
    refine WP.cut (fun f w => ∃ (H9 : Hp), f 0 = (str s_10) ∧ f 2 = (ptr b1 0) ∧ f 4 = (ptr b3 0) ∧ St w0 H0 w H9 [.box b3 44 [(boo m14), (str [])], .box b1 44 [(boo false), (str [])]]) ?_ ?_
    · rcases condE hj15 with ⟨hc17, hj15⟩ | ⟨hc17, hj15⟩
      · refine WP.condT rfl hc17 ?_
        refine WP.draw (by kernel_rfl) 5 rfl #[false, false, false, false, false] rfl ?_
        have S := S.drew
        refine WA.take (i := 0) #[true, false, false, false, false] rfl (by kernel_rfl) (by kernel_rfl) (by kernel_rfl) rfl (fun _ => (R.mv (v := (str p_s)) rfl)) ?_
        obtain ⟨s18, hs18, hj15⟩ := bindE hj15
        refine WA.take (i := 1) #[true, true, false, false, false] rfl (by kernel_rfl) (by kernel_rfl) (by kernel_rfl) rfl (fun _ => (R.subSlo rfl rfl Tryz.underlying9 hs18)) ?_
        refine WA.take (i := 2) #[true, true, true, false, false] rfl (by kernel_rfl) (by kernel_rfl) (by kernel_rfl) rfl (fun _ => (R.fieldB rfl fld44_0)) ?_
        refine WA.one (i := 3) #[true, true, true, true, false] rfl (by kernel_rfl) rfl ?_
        refine W.store (i := 0) [(boo true), (str [])] S rfl rfl rfl lay4 rfl rfl (Nat.le_of_ble_eq_true rfl) rfl ?_
        intro w19 S
        refine WL.nil ?_
        refine WA.take (i := 4) #[true, true, true, true, true] rfl (by kernel_rfl) (by kernel_rfl) (by kernel_rfl) rfl (fun _ => (R.as (v := (str s18)) rfl)) ?_
        refine WA.done (by kernel_rfl) ?_
        cases Option.some.inj hj15
        exact ⟨H0, rfl, rfl, rfl, S⟩
      · refine WP.condF rfl hc17 ?_
        refine WP.skip ?_
        cases Option.some.inj hj15
        exact ⟨H0, rfl, rfl, rfl, S⟩
    · rintro f w ⟨H9, h11, h12, h13, S⟩
      refine WP.seq ?_
      refine WP.seq ?_
      refine WP.region ?_
      refine WL.valw (R.mv (v := (str s_10)) h11) ?_
      refine WL.valw (R.lenS (a := s_10) rfl Tryz.underlying9) ?_
      refine WL.valw (R.lss rfl rfl) ?_
      refine WL.valw (R.mv (v := (boo (decide ((s_10.length : Int) < 2)))) rfl) ?_
      obtain ⟨b23, hg21, h⟩ := bindE h
      refine WL.grp 4 [20, 21, 22] 23 (boo b23) ?_ ?_
      · rcases boolE (decide ((s_10.length : Int) < 2)) with hb20 | hb20
        · replace hg21 := condT hg21 hb20
          refine WL.gno rfl rfl hb20 ?_
          refine WL.gno rfl rfl hb20 ?_
          refine WL.gno rfl rfl hb20 ?_
          refine WL.valw (R.pickT rfl hb20 rfl) ?_
          exact WL.nil ⟨(congrArg boo (Option.some.inj hg21)), (by repeat (first | refine agree_upd rfl ?_ | refine agree_upds' rfl ?_ | exact agree_refl)), rfl⟩
        · replace hg21 := condF hg21 hb20
          refine WL.gyes rfl rfl hb20 ?_
          refine WL.valw (R.mv (v := (str s_10)) h11) ?_
          refine WL.gyes rfl rfl hb20 ?_
          obtain ⟨c22, hc22, hg21⟩ := bindE hg21
          refine WL.valw (R.idxS rfl rfl Tryz.underlying9 hc22) ?_
          refine WL.gyes rfl rfl hb20 ?_
          refine WL.valw (R.neq8 (a := c22) (b := 34) rfl rfl) ?_
          refine WL.valw (R.pickF rfl hb20 rfl) ?_
          exact WL.nil ⟨(congrArg boo (Option.some.inj hg21)), (by repeat (first | refine agree_upd rfl ?_ | refine agree_upds' rfl ?_ | exact agree_refl)), rfl⟩
      · intro us
        refine WL.valw (R.mv (v := (boo b23)) rfl) ?_
        obtain ⟨b27, hg25, h⟩ := bindE h
        refine WL.grp 7 [25, 26, 27, 28, 29, 30] 31 (boo b27) ?_ ?_
        · rcases boolE b23 with hb24 | hb24
          · replace hg25 := condT hg25 hb24
            refine WL.gno rfl rfl hb24 ?_
            refine WL.gno rfl rfl hb24 ?_
            refine WL.gno rfl rfl hb24 ?_
            refine WL.gno rfl rfl hb24 ?_
            refine WL.gno rfl rfl hb24 ?_
            refine WL.gno rfl rfl hb24 ?_
            refine WL.valw (R.pickT rfl hb24 rfl) ?_
            exact WL.nil ⟨(congrArg boo (Option.some.inj hg25)), (by repeat (first | refine agree_upd rfl ?_ | refine agree_upds' rfl ?_ | exact agree_refl)), rfl⟩
          · replace hg25 := condF hg25 hb24
            refine WL.gyes rfl rfl hb24 ?_
            refine WL.valw (R.mv (v := (str s_10)) h11) ?_
            refine WL.gyes rfl rfl hb24 ?_
            refine WL.valw (R.mv (v := (str s_10)) h11) ?_
            refine WL.gyes rfl rfl hb24 ?_
            refine WL.valw (R.lenS (a := s_10) rfl Tryz.underlying9) ?_
            refine WL.gyes rfl rfl hb24 ?_
            refine WL.valw (R.sub rfl rfl) ?_
            refine WL.gyes rfl rfl hb24 ?_
            obtain ⟨c26, hc26, hg25⟩ := bindE hg25
            refine WL.valw (R.idxS rfl rfl Tryz.underlying9 hc26) ?_
            refine WL.gyes rfl rfl hb24 ?_
            refine WL.valw (R.neq8 (a := c26) (b := 34) rfl rfl) ?_
            refine WL.valw (R.pickF rfl hb24 rfl) ?_
            exact WL.nil ⟨(congrArg boo (Option.some.inj hg25)), (by repeat (first | refine agree_upd rfl ?_ | refine agree_upds' rfl ?_ | exact agree_refl)), rfl⟩
        · intro us
          refine WL.valw (R.mv (v := (boo b27)) rfl) ?_
          obtain ⟨b36, hg29, h⟩ := bindE h
          refine WL.grpw 8 [33, 34, 35, 36, 37, 38, 39] 40 (boo b36) (fun w => ∃ H' : Hp, H9.le H' ∧ St w0 H0 w H' [.box b3 44 [(boo m14), (str [])], .box b1 44 [(boo false), (str [])]]) ?_ ?_
          · rcases boolE b27 with hb28 | hb28
            · replace hg29 := condT hg29 hb28
              refine WL.gno rfl rfl hb28 ?_
              refine WL.gno rfl rfl hb28 ?_
              refine WL.gno rfl rfl hb28 ?_
              refine WL.gno rfl rfl hb28 ?_
              refine WL.gno rfl rfl hb28 ?_
              refine WL.gno rfl rfl hb28 ?_
              refine WL.gno rfl rfl hb28 ?_
              refine WL.valw (R.pickT rfl hb28 rfl) ?_
              exact WL.nil ⟨(congrArg boo (Option.some.inj hg29)), (by repeat (first | refine agree_upd rfl ?_ | refine agree_upds' rfl ?_ | exact agree_refl)), ⟨H9, (Hp.le.refl _), S⟩⟩
            · replace hg29 := condF hg29 hb28
              refine WL.gyes rfl rfl hb28 ?_
              refine WL.valw (R.mv (v := (str s_10)) h11) ?_
              refine WL.gyes rfl rfl hb28 ?_
              refine WL.valw (R.mv (v := (str s_10)) h11) ?_
              refine WL.gyes rfl rfl hb28 ?_
              refine WL.valw (R.lenS (a := s_10) rfl Tryz.underlying9) ?_
              refine WL.gyes rfl rfl hb28 ?_
              refine WL.valw (R.sub rfl rfl) ?_
              refine WL.gyes rfl rfl hb28 ?_
              obtain ⟨s30, hs30, hg29⟩ := bindE hg29
              refine WL.valw (R.subS rfl rfl rfl Tryz.underlying9 hs30) ?_
              refine WL.gyes rfl rfl hb28 ?_
              obtain ⟨r31, hr31, hg29⟩ := bindE hg29
              refine W.call S rfl (ref19_tagText_ok S.holds s30 hr31) ?_
              rintro v32 w33 H34 hle35 S rfl
              refine WL.gyes rfl rfl hb28 ?_
              refine WL.valw (R.not rfl) ?_
              refine WL.valw (R.pickF rfl hb28 rfl) ?_
              exact WL.nil ⟨(congrArg boo (Option.some.inj hg29)), (by repeat (first | refine agree_upd rfl ?_ | refine agree_upds' rfl ?_ | exact agree_refl)), ⟨H34, hle35, S⟩⟩
          · intro us w38 ⟨H37, hle39, S⟩
            refine WL.nil ?_
            rcases condE h with ⟨hc40, h⟩ | ⟨hc40, h⟩
            · refine WP.condT rfl hc40 ?_
              refine WP.seq ?_
              refine WP.region ?_
              refine WL.valw (R.build [] [(boo false), (str [])] bp44 zer44 rfl rfl) ?_
              refine W.store (i := 1) [(boo false), (str [])] S h12 rfl rfl lay44 rfl rfl (Nat.le_of_ble_eq_true rfl) rfl ?_
              intro w41 S
              refine WL.valw (R.as (v := (boo false)) rfl) ?_
              refine WL.nil ?_
              obtain rfl := Option.some.inj h
              refine WP.ret (Out.two rfl S (Res.cellB (i := 1) (cs := [(boo false), (str [])]) S h12 rfl lay44 rfl rfl) rfl ?_)
              exact rfl
            · refine WP.condF rfl hc40 ?_
              refine WP.skip ?_
              refine WP.seq ?_
              refine WP.region ?_
              refine WL.valw (R.mv (v := (str s_10)) h11) ?_
              refine WL.valw (R.mv (v := (str s_10)) h11) ?_
              refine WL.valw (R.lenS (a := s_10) rfl Tryz.underlying9) ?_
              refine WL.valw (R.sub rfl rfl) ?_
              obtain ⟨s42, hs42, h⟩ := bindE h
              refine WL.valw (R.subS rfl rfl rfl Tryz.underlying9 hs42) ?_
              refine WL.valw (R.fieldB h13 fld44_1) ?_
              refine W.store (i := 0) [(boo m14), (str s42)] S rfl rfl rfl lay9 rfl rfl (Nat.le_of_ble_eq_true rfl) rfl ?_
              intro w43 S
              refine WL.nil ?_
              refine WP.seq ?_
              refine WP.region ?_
              refine WL.valw (R.loadBN (i := 0) (vs := [(boo m14), (str s42)]) S h13 rfl lay44 rfl rfl) ?_
              refine W.store (i := 1) [(boo m14), (str s42)] S h12 rfl rfl lay44 rfl rfl (Nat.le_of_ble_eq_true rfl) rfl ?_
              intro w44 S
              refine WL.valw (R.as (v := (boo true)) rfl) ?_
              refine WL.nil ?_
              obtain rfl := Option.some.inj h
              refine WP.ret (Out.two rfl S (Res.cellB (i := 1) (cs := [(boo m14), (str s42)]) S h12 rfl lay44 rfl rfl) rfl ?_)
              exact rfl
set_option maxRecDepth 10000 in
set_option maxHeartbeats 4000000 in
theorem ref19_ETagOf_ok {w0 : World} {H0 : Hp} (hw : Holds w0 H0) (p_l : (List GField)) {vp_l : Value} (Rp_l : Sl (α := GField) H0 vp_l p_l) {r : (GETag × Bool)} (h : ref19_ETagOf p_l = some r) :
    Con Tryz.prog 29 [vp_l] w0 H0 (fun H' v => v = (.tuple ⟨[(agg [(boo r.1.fWeak), (str r.1.fTag)]), (boo r.2)]⟩)) := by
  refine Con.mk (N := 18) Tryz.func29 rfl rfl (by kernel_rfl) rfl ?_
  have S := St.start hw
  refine WP.seq ?_
  refine WP.region ?_
  refine W.alloc [(boo false), (str [])] S zer44 ?_
  intro b1 w2 S
  refine WL.valw (R.as (v := (boo false)) rfl) ?_
  refine WL.nil ?_
  refine WP.seq ?_
  refine WP.region ?_
  refine WL.valw (R.mv (v := vp_l) rfl) ?_
  obtain ⟨r3, hr3, h⟩ := bindE h
  refine W.call S rfl (ref01_First_ok S.holds p_l [69, 84, 97, 103] Rp_l hr3) ?_
  rintro v4 w5 H6 hle7 S rfl
  have Rp_l := Sl.mono Rp_l hle7
  refine WL.valw (R.mv (v := (.tuple ⟨[(str r3.1), (boo r3.2)]⟩)) rfl) ?_
  refine WL.valw (R.ext rfl rfl) ?_
  refine WL.valw (R.ext rfl rfl) ?_
  refine WL.valw (R.as (v := (str r3.1)) rfl) ?_
  refine WL.valw (R.as (v := (boo r3.2)) rfl) ?_
  refine WL.nil ?_
  refine WP.seq ?_
  refine WP.seq ?_
  refine WP.region ?_
  refine WL.valw (R.mv (v := (boo r3.2)) rfl) ?_
  refine WL.valw (R.not rfl) ?_
  refine WL.nil ?_
  rcases condE h with ⟨hc8, h⟩ | ⟨hc8, h⟩
  · refine WP.condT rfl hc8 ?_
    refine WP.seq ?_
    refine WP.region ?_
    refine WL.valw (R.build [] [(boo false), (str [])] bp44 zer44 rfl rfl) ?_
    refine W.store (i := 0) [(boo false), (str [])] S rfl rfl rfl lay44 rfl rfl (Nat.le_of_ble_eq_true rfl) rfl ?_
    intro w9 S
    refine WL.valw (R.as (v := (boo false)) rfl) ?_
    refine WL.nil ?_
    obtain rfl := Option.some.inj h
    refine WP.ret (Out.two rfl S (Res.cellB (i := 0) (cs := [(boo false), (str [])]) S rfl rfl lay44 rfl rfl) rfl ?_)
    exact rfl
  · refine WP.condF rfl hc8 ?_
    refine WP.skip ?_
    refine WP.seq ?_
    refine WP.region ?_
    refine WL.valw (R.mv (v := (str r3.1)) rfl) ?_
    obtain ⟨r10, hr10, h⟩ := bindE h
    refine W.call S rfl (ref19_ParseETag_ok S.holds r3.1 hr10) ?_
    rintro v11 w12 H13 hle14 S rfl
    have Rp_l := Sl.mono Rp_l hle14
    refine WL.valw (R.ext rfl rfl) ?_
    refine WL.valw (R.ext rfl rfl) ?_
    refine W.store (i := 0) [(boo r10.1.fWeak), (str r10.1.fTag)] S rfl rfl rfl lay44 rfl rfl (Nat.le_of_ble_eq_true rfl) rfl ?_
    intro w15 S
    refine WL.valw (R.as (v := (boo r10.2)) rfl) ?_
    refine WL.nil ?_
    obtain rfl := Option.some.inj h
    refine WP.ret (Out.two rfl S (Res.cellB (i := 0) (cs := [(boo r10.1.fWeak), (str r10.1.fTag)]) S rfl rfl lay44 rfl rfl) rfl ?_)
    exact rfl
set_option maxRecDepth 10000 in
set_option maxHeartbeats 4000000 in
theorem ref19_Validator_ok {w0 : World} {H0 : Hp} (hw : Holds w0 H0) (p_l : (List GField)) {vp_l : Value} (Rp_l : Sl (α := GField) H0 vp_l p_l) {r : Bool} (h : ref19_Validator p_l = some r) :
    Con Tryz.prog 13 [vp_l] w0 H0 (fun H' v => v = (boo r)) := by
  refine Con.mk (N := 21) Tryz.func13 rfl rfl (by kernel_rfl) rfl ?_
  have S := St.start hw
  refine WP.seq ?_
  refine WP.region ?_
  refine WL.valw (R.as (v := (boo false)) rfl) ?_
  refine WL.nil ?_
  refine WP.seq ?_
  refine WP.region ?_
  refine WL.valw (R.mv (v := vp_l) rfl) ?_
  obtain ⟨r1, hr1, h⟩ := bindE h
  refine W.call S rfl (ref19_ETagOf_ok S.holds p_l Rp_l hr1) ?_
  rintro v2 w3 H4 hle5 S rfl
  have Rp_l := Sl.mono Rp_l hle5
  refine WL.valw (R.mv (v := (.tuple ⟨[(agg [(boo r1.1.fWeak), (str r1.1.fTag)]), (boo r1.2)]⟩)) rfl) ?_
  refine WL.valw (R.ext rfl rfl) ?_
  refine WL.valw (R.ext rfl rfl) ?_
  refine W.alloc [(boo false), (str [])] S zer44 ?_
  intro b6 w7 S
  refine W.store (i := 0) [(boo r1.1.fWeak), (str r1.1.fTag)] S rfl rfl rfl lay44 rfl rfl (Nat.le_of_ble_eq_true rfl) rfl ?_
  intro w8 S
  refine WL.valw (R.as (v := (boo r1.2)) rfl) ?_
  refine WL.nil ?_
  refine WP.seq ?_
  refine WP.region ?_
  refine WL.valw (R.mv (v := vp_l) rfl) ?_
  obtain ⟨r9, hr9, h⟩ := bindE h
  refine W.call S rfl (ref19_firstDate_ok S.holds p_l [76, 97, 115, 116, 45, 77, 111, 100, 105, 102, 105, 101, 100] Rp_l hr9) ?_
  rintro v10 w11 H12 hle13 S rfl
  have Rp_l := Sl.mono Rp_l hle13
  refine WL.valw (R.mv (v := (.tuple ⟨[(int r9.1), (boo r9.2)]⟩)) rfl) ?_
  refine WL.valw (R.ext rfl rfl) ?_
  refine WL.valw (R.ext rfl rfl) ?_
  refine WL.valw (R.as (v := (int r9.1)) rfl) ?_
  refine WL.valw (R.as (v := (boo r9.2)) rfl) ?_
  refine WL.nil ?_
  refine WP.seq ?_
  refine WP.region ?_
  refine WL.valw (R.mv (v := (boo r1.2)) rfl) ?_
  refine WL.valw (R.mv (v := (boo r1.2)) rfl) ?_
  refine WL.grp 2 [19] 20 (boo (r1.2 || r9.2)) ?_ ?_
  · rcases boolE r1.2 with hb14 | hb14
    · refine WL.gno rfl rfl hb14 ?_
      refine WL.valw (R.pickT rfl hb14 rfl) ?_
      exact WL.nil ⟨(orT hb14), (by repeat (first | refine agree_upd rfl ?_ | refine agree_upds' rfl ?_ | exact agree_refl)), rfl⟩
    · refine WL.gyes rfl rfl hb14 ?_
      refine WL.valw (R.mv (v := (boo r9.2)) rfl) ?_
      refine WL.valw (R.pickF rfl hb14 rfl) ?_
      exact WL.nil ⟨(orF hb14), (by repeat (first | refine agree_upd rfl ?_ | refine agree_upds' rfl ?_ | exact agree_refl)), rfl⟩
  · intro us
    refine WL.valw (R.as (v := (boo (r1.2 || r9.2))) rfl) ?_
    refine WL.nil ?_
    obtain rfl := Option.some.inj h
    refine WP.ret (Out.one rfl S rfl ?_)
    exact rfl
end Go.Proofs
