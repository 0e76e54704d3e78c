/- A part of the proof of laws of the seat: written by program over the translation. -/
import Derived.Test.YtdijehmmnpofjaaDoorGenC2
namespace Go.Proofs
open Go.Eng Go.Eng.Pure
set_option linter.unusedVariables false
set_option maxRecDepth 10000 in
set_option maxHeartbeats 4000000 in
theorem cachecontrol_read_ok {w0 : World} {H0 : Hp} (hw : Holds w0 H0) (p_m : Str) {r : (Str × Gcachecontrol_directive)} (h : cachecontrol_read p_m = some r) :
    Con Tryd.prog 43 [(str p_m)] w0 H0 (fun H' v => v = (.tuple ⟨[(str r.1), (agg [(int r.2.fform), (str r.2.fvalue)])]⟩)) := by
  refine Con.mk (N := 63) Tryd.func43 rfl rfl (by kernel_rfl) rfl ?_
  have S := St.start hw
  refine WP.seq ?_
  refine WP.region ?_
  refine WL.valw (R.as (v := (str [])) rfl) ?_
  refine W.alloc [(int 0), (str [])] S zer54 ?_
  intro b1 w2 S
  refine WL.nil ?_
  refine WP.seq ?_
  refine WP.region ?_
  refine WL.valw (R.as (v := (int 0)) rfl) ?_
  refine WL.nil ?_
  refine WP.seq ?_
  obtain ⟨n_11, hr17, h⟩ := bindE h
  refine WP.cut (fun f w => ∃ (H8 : Hp), f 0 = (str p_m) ∧ f 3 = (ptr b1 0) ∧ f 4 = (int n_11) ∧ St w0 H0 w H8 [.box b1 54 [(int 0), (str [])]]) ?_ ?_
  · refine WP.block ?_
    refine WP.loopM (cachecontrol_read_L0 p_m) (fun s f w => match s with | n_6 => ∃ (H3 : Hp), f 0 = (str p_m) ∧ f 3 = (ptr b1 0) ∧ f 4 = (int n_6) ∧ St w0 H0 w H3 [.box b1 54 [(int 0), (str [])]]) 0 n_11 hr17 ?_ ?_
    · exact ⟨H0, rfl, rfl, rfl, S⟩
    · intro n_6 f w hI y13 hy14 hy15
      obtain ⟨H3, h4, h5, h7, S⟩ := hI
      refine WP.seq ?_
      refine WP.seq ?_
      refine WP.region ?_
      refine WL.valw (R.mv (v := (int n_6)) h7) ?_
      refine WL.valw (R.mv (v := (str p_m)) h4) ?_
      refine WL.valw (R.lenS (a := p_m) rfl Tryd.underlying9) ?_
      refine WL.valw (R.lss rfl rfl) ?_
      refine WL.valw (R.mv (v := (boo (decide (n_6 < (p_m.length : Int))))) rfl) ?_
      obtain ⟨b26, hg19, hy14⟩ := bindE hy14
      refine WL.grpw 7 [15, 16, 17, 18, 19, 20] 21 (boo b26) (fun w => ∃ H' : Hp, H3.le H' ∧ St w0 H0 w H' [.box b1 54 [(int 0), (str [])]]) ?_ ?_
      · rcases boolE (decide (n_6 < (p_m.length : Int))) with hb18 | hb18
        · replace hg19 := condT hg19 hb18
          refine WL.gyes rfl rfl hb18 ?_
          refine WL.valw (R.mv (v := (str p_m)) h4) ?_
          refine WL.gyes rfl rfl hb18 ?_
          refine WL.valw (R.mv (v := (int n_6)) h7) ?_
          refine WL.gyes rfl rfl hb18 ?_
          refine WL.valw (R.mv (v := (int n_6)) h7) ?_
          refine WL.gyes rfl rfl hb18 ?_
          refine WL.valw (R.add rfl rfl) ?_
          refine WL.gyes rfl rfl hb18 ?_
          obtain ⟨s20, hs20, hg19⟩ := bindE hg19
          refine WL.valw (R.subS rfl rfl rfl Tryd.underlying9 hs20) ?_
          refine WL.gyes rfl rfl hb18 ?_
          obtain ⟨r21, hr21, hg19⟩ := bindE hg19
          refine W.call S rfl (ascii_Token_ok S.holds s20 hr21) ?_
          rintro v22 w23 H24 hle25 S rfl
          refine WL.valw (R.pickT rfl hb18 rfl) ?_
          exact WL.nil ⟨(congrArg boo (Option.some.inj hg19)), (by repeat (first | refine agree_upd rfl ?_ | refine agree_upds' rfl ?_ | exact agree_refl)), ⟨H24, hle25, S⟩⟩
        · replace hg19 := condF hg19 hb18
          refine WL.gno rfl rfl hb18 ?_
          refine WL.gno rfl rfl hb18 ?_
          refine WL.gno rfl rfl hb18 ?_
          refine WL.gno rfl rfl hb18 ?_
          refine WL.gno rfl rfl hb18 ?_
          refine WL.gno rfl rfl hb18 ?_
          refine WL.valw (R.pickF rfl hb18 rfl) ?_
          exact WL.nil ⟨(congrArg boo (Option.some.inj hg19)), (by repeat (first | refine agree_upd rfl ?_ | refine agree_upds' rfl ?_ | exact agree_refl)), ⟨H3, (Hp.le.refl _), S⟩⟩
      · intro us w28 ⟨H27, hle29, S⟩
        refine WL.nil ?_
        rcases condE hy14 with ⟨hc30, hy14⟩ | ⟨hc30, hy14⟩
        · refine WP.condT rfl hc30 ?_
          refine WP.skip ?_
          refine WP.block ?_
          refine WP.region ?_
          refine WL.valw (R.mv (v := (int n_6)) h7) ?_
          refine WL.valw (R.add rfl rfl) ?_
          refine WL.valw (R.as (v := (int (wr (n_6 + 1)))) rfl) ?_
          refine WL.nil ?_
          obtain rfl := Option.some.inj hy14
          exact ⟨rfl, ⟨H27, h4, h5, rfl, S⟩⟩
        · refine WP.condF rfl hc30 ?_
          refine WP.exit ?_
          obtain rfl := Option.some.inj hy14
          obtain rfl := hy15
          exact ⟨H27, h4, h5, h7, S⟩
  · rintro f w ⟨H8, h9, h10, h12, S⟩
    refine WP.seq ?_
    refine WP.quiet S (by kernel_rfl) (by kernel_rfl) ?_
    refine WQ.val (fun _ _ => (R.mv (v := (str p_m)) h9)) ?_
    refine WQ.val (fun _ _ => (R.mv (v := (int n_11)) h12)) ?_
    obtain ⟨s34, hs34, h⟩ := bindE h
    refine WQ.val (fun _ _ => (R.subShi rfl rfl Tryd.underlying9 hs34)) ?_
    obtain ⟨r35, hr35, h⟩ := bindE h
    refine WQ.call (v := (str r35)) rfl (fun w H' hq S => ascii_Lower_ok S.holds s34 hr35) ?_
    refine WQ.val (fun _ _ => (R.mv (v := (str p_m)) h9)) ?_
    refine WQ.val (fun _ _ => (R.mv (v := (int n_11)) h12)) ?_
    obtain ⟨s40, hs40, h⟩ := bindE h
    refine WQ.val (fun _ _ => (R.subSlo rfl rfl Tryd.underlying9 hs40)) ?_
    refine WQ.val (fun _ _ => (R.as (v := (str r35)) rfl)) ?_
    refine WQ.val (fun _ _ => (R.as (v := (str s40)) rfl)) ?_
    refine WQ.nil ?_
    intro w31 H32 hle33 S
    refine WP.seq ?_
    refine WP.seq ?_
    refine WP.region ?_
    refine WL.valw (R.mv (v := (str s40)) rfl) ?_
    refine WL.valw (R.eqlS (a := s40) (b := []) rfl rfl) ?_
    refine WL.nil ?_
    rcases condE h with ⟨hc41, h⟩ | ⟨hc41, h⟩
    · refine WP.condT rfl hc41 ?_
      refine WP.seq ?_
      refine WP.region ?_
      refine WL.valw (R.mv (v := (str r35)) rfl) ?_
      refine WL.valw (R.build [] [(int 0), (str [])] bp54 zer54 rfl rfl) ?_
      refine WL.valw (R.as (v := (str r35)) rfl) ?_
      refine W.store (i := 0) [(int 0), (str [])] S h10 rfl rfl lay54 rfl rfl (Nat.le_of_ble_eq_true rfl) rfl ?_
      intro w42 S
      refine WL.nil ?_
      obtain rfl := Option.some.inj h
      refine WP.ret (Out.two rfl S rfl (Res.cellB (i := 0) (cs := [(int 0), (str [])]) S h10 rfl lay54 rfl rfl) ?_)
      exact rfl
    · refine WP.condF rfl hc41 ?_
      refine WP.skip ?_
      refine WP.seq ?_
      refine WP.region ?_
      refine WL.valw (R.mv (v := (str s40)) rfl) ?_
      obtain ⟨s43, hs43, h⟩ := bindE h
      refine WL.valw (R.subSlo rfl rfl Tryd.underlying9 hs43) ?_
      refine WL.valw (R.as (v := (str s43)) rfl) ?_
      refine WL.nil ?_
      refine WP.seq ?_
      refine WP.seq ?_
      refine WP.region ?_
      refine WL.valw (R.mv (v := (str s40)) rfl) ?_
      obtain ⟨c44, hc44, h⟩ := bindE h
      refine WL.valw (R.idxS rfl rfl Tryd.underlying9 hc44) ?_
      refine WL.valw (R.eql8 (a := c44) (b := 61) rfl rfl) ?_
      refine WL.valw (R.mv (v := (boo (c44 == 61))) rfl) ?_
      obtain ⟨b52, hg46, h⟩ := bindE h
      refine WL.grpw 3 [41, 42] 43 (boo b52) (fun w => ∃ H' : Hp, H32.le H' ∧ St w0 H0 w H' [.box b1 54 [(int 0), (str [])]]) ?_ ?_
      · rcases boolE (c44 == 61) with hb45 | hb45
        · replace hg46 := condT hg46 hb45
          refine WL.gyes rfl rfl hb45 ?_
          refine WL.valw (R.mv (v := (str s43)) rfl) ?_
          refine WL.gyes rfl rfl hb45 ?_
          obtain ⟨r47, hr47, hg46⟩ := bindE hg46
          refine W.call S rfl (ascii_Token_ok S.holds s43 hr47) ?_
          rintro v48 w49 H50 hle51 S rfl
          refine WL.valw (R.pickT rfl hb45 rfl) ?_
          exact WL.nil ⟨(congrArg boo (Option.some.inj hg46)), (by repeat (first | refine agree_upd rfl ?_ | refine agree_upds' rfl ?_ | exact agree_refl)), ⟨H50, hle51, S⟩⟩
        · replace hg46 := condF hg46 hb45
          refine WL.gno rfl rfl hb45 ?_
          refine WL.gno rfl rfl hb45 ?_
          refine WL.valw (R.pickF rfl hb45 rfl) ?_
          exact WL.nil ⟨(congrArg boo (Option.some.inj hg46)), (by repeat (first | refine agree_upd rfl ?_ | refine agree_upds' rfl ?_ | exact agree_refl)), ⟨H32, (Hp.le.refl _), S⟩⟩
      · intro us w54 ⟨H53, hle55, S⟩
        refine WL.nil ?_
        rcases condE h with ⟨hc56, h⟩ | ⟨hc56, h⟩
        · refine WP.condT rfl hc56 ?_
          refine WP.seq ?_
          refine WP.region ?_
          refine WL.valw (R.mv (v := (str r35)) rfl) ?_
          refine WL.valw (R.mv (v := (str s43)) rfl) ?_
          refine WL.valw (R.build [(0, (int 1)), (1, (str s43))] [(int 1), (str s43)] bp54 zer54 rfl rfl) ?_
          refine WL.valw (R.as (v := (str r35)) rfl) ?_
          refine W.store (i := 0) [(int 1), (str s43)] S h10 rfl rfl lay54 rfl rfl (Nat.le_of_ble_eq_true rfl) rfl ?_
          intro w57 S
          refine WL.nil ?_
          obtain rfl := Option.some.inj h
          refine WP.ret (Out.two rfl S rfl (Res.cellB (i := 0) (cs := [(int 1), (str s43)]) S h10 rfl lay54 rfl rfl) ?_)
          exact rfl
        · refine WP.condF rfl hc56 ?_
          refine WP.skip ?_
          refine WP.seq ?_
          refine WP.seq ?_
          refine WP.region ?_
          refine WL.valw (R.mv (v := (str s43)) rfl) ?_
          obtain ⟨r58, hr58, h⟩ := bindE h
          refine W.call S rfl (ascii_Unquote_ok S.holds s43 hr58) ?_
          rintro v59 w60 H61 hle62 S rfl
          refine WL.valw (R.mv (v := (.tuple ⟨[(str r58.1), (boo r58.2)]⟩)) rfl) ?_
          refine WL.valw (R.ext rfl rfl) ?_
          refine WL.valw (R.ext rfl rfl) ?_
          refine WL.valw (R.as (v := (str r58.1)) rfl) ?_
          refine WL.valw (R.as (v := (boo r58.2)) rfl) ?_
          refine WL.nil ?_
          refine WP.seq ?_
          refine WP.region ?_
          refine WL.valw (R.mv (v := (str s40)) rfl) ?_
          obtain ⟨c63, hc63, h⟩ := bindE h
          refine WL.valw (R.idxS rfl rfl Tryd.underlying9 hc63) ?_
          refine WL.valw (R.eql8 (a := c63) (b := 61) rfl rfl) ?_
          refine WL.valw (R.mv (v := (boo (c63 == 61))) rfl) ?_
          refine WL.grp 2 [56] 57 (boo ((c63 == 61) && r58.2)) ?_ ?_
          · rcases boolE (c63 == 61) with hb64 | hb64
            · refine WL.gyes rfl rfl hb64 ?_
              refine WL.valw (R.mv (v := (boo r58.2)) rfl) ?_
              refine WL.valw (R.pickT rfl hb64 rfl) ?_
              exact WL.nil ⟨(andT hb64), (by repeat (first | refine agree_upd rfl ?_ | refine agree_upds' rfl ?_ | exact agree_refl)), rfl⟩
            · refine WL.gno rfl rfl hb64 ?_
              refine WL.valw (R.pickF rfl hb64 rfl) ?_
              exact WL.nil ⟨(andF hb64), (by repeat (first | refine agree_upd rfl ?_ | refine agree_upds' rfl ?_ | exact agree_refl)), rfl⟩
          · intro us
            refine WL.nil ?_
            rcases condE h with ⟨hc66, h⟩ | ⟨hc66, h⟩
            · refine WP.condT rfl hc66 ?_
              refine WP.seq ?_
              refine WP.region ?_
              refine WL.valw (R.mv (v := (str r35)) rfl) ?_
              refine WL.valw (R.mv (v := (str r58.1)) rfl) ?_
              refine WL.valw (R.build [(0, (int 1)), (1, (str r58.1))] [(int 1), (str r58.1)] bp54 zer54 rfl rfl) ?_
              refine WL.valw (R.as (v := (str r35)) rfl) ?_
              refine W.store (i := 0) [(int 1), (str r58.1)] S h10 rfl rfl lay54 rfl rfl (Nat.le_of_ble_eq_true rfl) rfl ?_
              intro w67 S
              refine WL.nil ?_
              obtain rfl := Option.some.inj h
              refine WP.ret (Out.two rfl S rfl (Res.cellB (i := 0) (cs := [(int 1), (str r58.1)]) S h10 rfl lay54 rfl rfl) ?_)
              exact rfl
            · refine WP.condF rfl hc66 ?_
              refine WP.skip ?_
              refine WP.seq ?_
              refine WP.region ?_
              refine WL.valw (R.mv (v := (str r35)) rfl) ?_
              refine WL.valw (R.build [(0, (int 2))] [(int 2), (str [])] bp54 zer54 rfl rfl) ?_
              refine WL.valw (R.as (v := (str r35)) rfl) ?_
              refine W.store (i := 0) [(int 2), (str [])] S h10 rfl rfl lay54 rfl rfl (Nat.le_of_ble_eq_true rfl) rfl ?_
              intro w68 S
              refine WL.nil ?_
              obtain rfl := Option.some.inj h
              refine WP.ret (Out.two rfl S rfl (Res.cellB (i := 0) (cs := [(int 2), (str [])]) S h10 rfl lay54 rfl rfl) ?_)
              exact rfl
set_option maxRecDepth 10000 in
set_option maxHeartbeats 4000000 in
theorem ascii_Number_ok {w0 : World} {H0 : Hp} (hw : Holds w0 H0) (p_s : Str) {r : (Int × Bool)} (h : ascii_Number p_s = some r) :
    Con Tryd.prog 57 [(str p_s)] w0 H0 (fun H' v => v = (.tuple ⟨[(int r.1), (boo r.2)]⟩)) := by
  refine Con.mk (N := 34) Tryd.func57 rfl rfl (by kernel_rfl) rfl ?_
  have S := St.start hw
  refine WP.seq ?_
  refine WP.region ?_
  refine WL.valw (R.as (v := (int 0)) rfl) ?_
  refine WL.valw (R.as (v := (boo false)) rfl) ?_
  refine WL.nil ?_
  refine WP.seq ?_
  refine WP.region ?_
  refine WL.valw (R.as (v := (int 0)) rfl) ?_
  refine WL.nil ?_
  refine WP.seq ?_
  refine WP.seq ?_
  refine WP.region ?_
  refine WL.valw (R.mv (v := (str p_s)) rfl) ?_
  refine WL.valw (R.lenS (a := p_s) rfl Tryd.underlying9) ?_
  refine WL.valw (R.mv (v := (int 0)) rfl) ?_
  refine WL.nil ?_
  obtain ⟨r15, hr16, h⟩ := bindE h
  refine WP.cut (fun f w => match r15 with | .inl n_10 => ∃ (H8 : Hp), f 0 = (str p_s) ∧ f 4 = (int n_10) ∧ St w0 H0 w H8 [] | .inr _ => False) ?_ ?_
  · refine WP.block ?_
    refine WP.loopM (ascii_Number_L0 p_s) (fun s f w => match s with | (n_3, y_6) => ∃ (H1 : Hp), f 0 = (str p_s) ∧ f 4 = (int n_3) ∧ f 7 = (int (p_s.length : Int)) ∧ f 8 = (int y_6) ∧ St w0 H0 w H1 []) (0, 0) r15 hr16 ?_ ?_
    · exact ⟨H0, rfl, rfl, rfl, rfl, S⟩
    · intro s f w hI y12 hy13 hy14
      obtain ⟨n_3, y_6⟩ := s
      obtain ⟨H1, h2, h4, h5, h7, S⟩ := hI
      refine WP.seq ?_
      refine WP.region ?_
      refine WL.valw (R.lss h7 h5) ?_
      refine WL.nil ?_
      refine WP.seq ?_
      rcases condE hy13 with ⟨hc17, hy13⟩ | ⟨hc17, hy13⟩
      · refine WP.condT rfl hc17 ?_
        refine WP.skip ?_
        refine WP.seq ?_
        refine WP.block ?_
        refine WP.seq ?_
        refine WP.region ?_
        refine WL.valw (R.mv (v := (int y_6)) h7) ?_
        refine WL.valw (R.as (v := (int y_6)) rfl) ?_
        refine WL.nil ?_
        refine WP.seq ?_
        refine WP.seq ?_
        refine WP.region ?_
        refine WL.valw (R.mv (v := (str p_s)) h2) ?_
        refine WL.valw (R.mv (v := (int y_6)) rfl) ?_
        obtain ⟨c18, hc18, hy13⟩ := bindE hy13
        refine WL.valw (R.idxS rfl rfl Tryd.underlying9 hc18) ?_
        refine WL.valw (R.lss8 (a := c18) (b := 48) rfl rfl) ?_
        refine WL.valw (R.mv (v := (boo (decide (c18 < 48)))) rfl) ?_
        obtain ⟨b22, hg20, hy13⟩ := bindE hy13
        refine WL.grp 5 [16, 17, 18, 19] 20 (boo b22) ?_ ?_
        · rcases boolE (decide (c18 < 48)) with hb19 | hb19
          · replace hg20 := condT hg20 hb19
            refine WL.gno rfl rfl hb19 ?_
            refine WL.gno rfl rfl hb19 ?_
            refine WL.gno rfl rfl hb19 ?_
            refine WL.gno rfl rfl hb19 ?_
            refine WL.valw (R.pickT rfl hb19 rfl) ?_
            exact WL.nil ⟨(congrArg boo (Option.some.inj hg20)), (by repeat (first | refine agree_upd rfl ?_ | refine agree_upds' rfl ?_ | exact agree_refl)), rfl⟩
          · replace hg20 := condF hg20 hb19
            refine WL.gyes rfl rfl hb19 ?_
            refine WL.valw (R.mv (v := (str p_s)) h2) ?_
            refine WL.gyes rfl rfl hb19 ?_
            refine WL.valw (R.mv (v := (int y_6)) rfl) ?_
            refine WL.gyes rfl rfl hb19 ?_
            obtain ⟨c21, hc21, hg20⟩ := bindE hg20
            refine WL.valw (R.idxS rfl rfl Tryd.underlying9 hc21) ?_
            refine WL.gyes rfl rfl hb19 ?_
            refine WL.valw (R.gtr8 (a := c21) (b := 57) rfl rfl) ?_
            refine WL.valw (R.pickF rfl hb19 rfl) ?_
            exact WL.nil ⟨(congrArg boo (Option.some.inj hg20)), (by repeat (first | refine agree_upd rfl ?_ | refine agree_upds' rfl ?_ | exact agree_refl)), rfl⟩
        · intro us
          refine WL.nil ?_
          rcases condE hy13 with ⟨hc23, hy13⟩ | ⟨hc23, hy13⟩
          · refine WP.condT rfl hc23 ?_
            refine WP.seq ?_
            refine WP.region ?_
            refine WL.valw (R.as (v := (int 0)) rfl) ?_
            refine WL.valw (R.as (v := (boo false)) rfl) ?_
            refine WL.nil ?_
            obtain rfl := Option.some.inj hy13
            obtain rfl := hy14
            obtain rfl := Option.some.inj h
            refine WP.ret (Out.two rfl S rfl rfl ?_)
            exact rfl
          · refine WP.condF rfl hc23 ?_
            refine WP.skip ?_
            refine WP.region ?_
            refine WL.valw (R.mv (v := (int n_3)) h4) ?_
            refine WL.valw (R.mul rfl rfl) ?_
            refine WL.valw (R.mv (v := (str p_s)) h2) ?_
            refine WL.valw (R.mv (v := (int y_6)) rfl) ?_
            obtain ⟨c24, hc24, hy13⟩ := bindE hy13
            refine WL.valw (R.idxS rfl rfl Tryd.underlying9 hc24) ?_
            refine WL.valw (R.sub8 (a := c24) (b := 48) rfl rfl) ?_
            refine WL.valw (R.i64of8 (a := c24 - 48) rfl Tryd.underlying5 Tryd.underlying2) ?_
            refine WL.valw (R.add rfl rfl) ?_
            refine WL.valw (R.min rfl rfl) ?_
            refine WL.valw (R.as (v := (int (if 2147483647 < (wr ((wr (10 * n_3)) + ((c24 - 48).toNat : Int))) then 2147483647 else (wr ((wr (10 * n_3)) + ((c24 - 48).toNat : Int)))))) rfl) ?_
            refine WL.nil ?_
            refine WP.region ?_
            refine WL.valw (R.add h7 rfl) ?_
            refine WL.valw (R.mv (v := (int (wr (y_6 + 1)))) rfl) ?_
            refine WL.nil ?_
            obtain rfl := Option.some.inj hy13
            exact ⟨rfl, ⟨H1, h2, rfl, h5, rfl, S⟩⟩
      · refine WP.condF rfl hc17 ?_
        refine WP.exit ?_
        obtain rfl := Option.some.inj hy13
        obtain rfl := hy14
        exact ⟨H1, h2, h4, S⟩
  · intro f w hM
    rcases r15 with n_10 | e
    · obtain ⟨H8, h9, h11, S⟩ := hM
      refine WP.seq ?_
      refine WP.region ?_
      refine WL.valw (R.mv (v := (int n_10)) h11) ?_
      refine WL.valw (R.mv (v := (str p_s)) h9) ?_
      refine WL.valw (R.neqS (a := p_s) (b := []) rfl rfl) ?_
      refine WL.valw (R.as (v := (int n_10)) rfl) ?_
      refine WL.valw (R.as (v := (boo (p_s != []))) rfl) ?_
      refine WL.nil ?_
      obtain rfl := Option.some.inj h
      refine WP.ret (Out.two rfl S rfl rfl ?_)
      exact rfl
    · exact hM.elim
set_option maxRecDepth 10000 in
set_option maxHeartbeats 4000000 in
theorem cachecontrol_number_ok {w0 : World} {H0 : Hp} (hw : Holds w0 H0) (p_d : Gcachecontrol_directive) (p_without : Int) (p_broken : Int) {r : Int} (h : cachecontrol_number p_d p_without p_broken = some r) :
    Con Tryd.prog 44 [(agg [(int p_d.fform), (str p_d.fvalue)]), (int p_without), (int p_broken)] w0 H0 (fun H' v => v = (int r)) := by
  refine Con.mk (N := 30) Tryd.func44 rfl rfl (by kernel_rfl) rfl ?_
  have S := St.start hw
  refine WP.seq ?_
  refine WP.region ?_
  refine W.box [(int p_d.fform), (str p_d.fvalue)] S rfl rfl ?_
  intro b1 w2 S
  refine WL.valw (R.as (v := (int 0)) rfl) ?_
  refine WL.nil ?_
  refine WP.seq ?_
  refine WP.region ?_
  refine WL.valw (R.fieldB rfl fld54_1) ?_
  refine WL.valw (R.loadB (i := 0) (v := (str p_d.fvalue)) S rfl rfl lay9 rfl) ?_
  obtain ⟨r3, hr3, h⟩ := bindE h
  refine W.call S rfl (ascii_Number_ok S.holds p_d.fvalue hr3) ?_
  rintro v4 w5 H6 hle7 S rfl
  refine WL.valw (R.mv (v := (.tuple ⟨[(int r3.1), (boo r3.2)]⟩)) rfl) ?_
  refine WL.valw (R.ext rfl rfl) ?_
  refine WL.valw (R.ext rfl rfl) ?_
  refine WL.valw (R.as (v := (int r3.1)) rfl) ?_
  refine WL.valw (R.as (v := (boo r3.2)) rfl) ?_
  refine WL.nil ?_
  refine WP.seq ?_
  refine WP.block ?_
  refine WP.seq ?_
  refine WP.region ?_
  refine WL.valw (R.fieldB rfl fld54_0) ?_
  refine WL.valw (R.loadB (i := 0) (v := (int p_d.fform)) S rfl rfl lay3 rfl) ?_
  refine WL.valw (R.eql rfl rfl) ?_
  refine WL.valw (R.as (v := (boo (p_d.fform == 0))) rfl) ?_
  refine WL.nil ?_
  rcases condE h with ⟨hc8, h⟩ | ⟨hc8, h⟩
  · refine WP.condT rfl hc8 ?_
    refine WP.seq ?_
    refine WP.region ?_
    refine WL.valw (R.mv (v := (int p_without)) rfl) ?_
    refine WL.valw (R.as (v := (int p_without)) rfl) ?_
    refine WL.nil ?_
    obtain rfl := Option.some.inj h
    refine WP.ret (Out.one rfl S rfl ?_)
    exact rfl
  · refine WP.condF rfl hc8 ?_
    refine WP.seq ?_
    refine WP.region ?_
    refine WL.valw (R.fieldB rfl fld54_0) ?_
    refine WL.valw (R.loadB (i := 0) (v := (int p_d.fform)) S rfl rfl lay3 rfl) ?_
    refine WL.valw (R.eql rfl rfl) ?_
    refine WL.valw (R.mv (v := (boo (p_d.fform == 2))) rfl) ?_
    refine WL.grp 3 [25, 26] 27 (boo ((p_d.fform == 2) || (!r3.2))) ?_ ?_
    · rcases boolE (p_d.fform == 2) with hb9 | hb9
      · refine WL.gno rfl rfl hb9 ?_
        refine WL.gno rfl rfl hb9 ?_
        refine WL.valw (R.pickT rfl hb9 rfl) ?_
        exact WL.nil ⟨(orT hb9), (by repeat (first | refine agree_upd rfl ?_ | refine agree_upds' rfl ?_ | exact agree_refl)), rfl⟩
      · refine WL.gyes rfl rfl hb9 ?_
        refine WL.valw (R.mv (v := (boo r3.2)) rfl) ?_
        refine WL.gyes rfl rfl hb9 ?_
        refine WL.valw (R.not rfl) ?_
        refine WL.valw (R.pickF rfl hb9 rfl) ?_
        exact WL.nil ⟨(orF hb9), (by repeat (first | refine agree_upd rfl ?_ | refine agree_upds' rfl ?_ | exact agree_refl)), rfl⟩
    · intro us
      refine WL.valw (R.as (v := (boo ((p_d.fform == 2) || (!r3.2)))) rfl) ?_
      refine WL.nil ?_
      rcases condE h with ⟨hc11, h⟩ | ⟨hc11, h⟩
      · refine WP.condT rfl hc11 ?_
        refine WP.seq ?_
        refine WP.region ?_
        refine WL.valw (R.mv (v := (int p_broken)) rfl) ?_
        refine WL.valw (R.as (v := (int p_broken)) rfl) ?_
        refine WL.nil ?_
        obtain rfl := Option.some.inj h
        refine WP.ret (Out.one rfl S rfl ?_)
        exact rfl
      · refine WP.condF rfl hc11 ?_
        refine WP.skip ?_
        refine WP.seq ?_
        refine WP.region ?_
        refine WL.valw (R.mv (v := (int r3.1)) rfl) ?_
        refine WL.valw (R.as (v := (int r3.1)) rfl) ?_
        refine WL.nil ?_
        obtain rfl := Option.some.inj h
        refine WP.ret (Out.one rfl S rfl ?_)
        exact rfl
set_option maxRecDepth 10000 in
set_option maxHeartbeats 4000000 in
theorem cachecontrol_Response_ok {w0 : World} {H0 : Hp} (hw : Holds w0 H0) (p_ppend : (List GField)) {vp_ppend : Value} (Rp_ppend : Sl (α := GField) H0 vp_ppend p_ppend) {r : GControl} (h : cachecontrol_Response p_ppend = some r) :
    Con Tryd.prog 20 [vp_ppend] w0 H0 (fun H' v => v = (agg [(boo r.fNoStore), (boo r.fNoCache), (boo r.fMustRevalidate), (boo r.fProxyRevalidate), (boo r.fPrivate), (boo r.fPublic), (boo r.fOnlyIfCached), (int r.fMaxAge), (int r.fSMaxAge), (int r.fMinFresh), (int r.fMaxStale)])) := by
  refine Con.mk (N := 141) Tryd.func20 rfl rfl (by kernel_rfl) rfl ?_
  have S := St.start hw
  refine WP.seq ?_
  refine WP.region ?_
  refine W.alloc [(boo false), (boo false), (boo false), (boo false), (boo false), (boo false), (boo false), (int 0), (int 0), (int 0), (int 0)] S zer32 ?_
  intro b1 w2 S
  refine WL.nil ?_
  refine WP.seq ?_
  refine WP.region ?_
  refine WL.valw (R.mv (v := vp_ppend) rfl) ?_
  obtain ⟨r3, hr3, h⟩ := bindE h
  refine W.call S rfl (list_All_ok S.holds p_ppend [67, 97, 99, 104, 101, 45, 67, 111, 110, 116, 114, 111, 108] Rp_ppend hr3) ?_
  rintro v4 w5 H6 hle7 S R8
  have Rp_ppend := Sl.mono Rp_ppend hle7
  refine WL.valw (R.as (v := v4) rfl) ?_
  refine WL.nil ?_
  refine WP.seq ?_
  refine WP.region ?_
  refine W.makeMap S ?_
  intro b9 w10 S
  refine WL.valw (R.as (v := (mapv b9)) rfl) ?_
  refine WL.nil ?_
  refine WP.seq ?_
  refine WP.seq ?_
  refine WP.region ?_
  refine WL.valw (R.mv (v := v4) rfl) ?_
  refine WL.valw (R.lenL (α := Str) (xs := r3) (H := H6) R8 rfl Tryd.underlying23) ?_
  refine WL.valw (R.mv (v := (int 0)) rfl) ?_
  refine WL.nil ?_
  obtain ⟨m24, hr29, h⟩ := bindE h
  refine WP.cut (fun f w => ∃ (H20 : Hp), f 2 = (ptr b1 0) ∧ f 3 = v4 ∧ f 4 = (mapv b9) ∧ Sl (α := Str) H20 v4 r3 ∧ St w0 H0 w H20 [.mp b9 (encm (fun x : Gcachecontrol_directive => (agg [(int x.fform), (str x.fvalue)])) m24), .box b1 32 [(boo false), (boo false), (boo false), (boo false), (boo false), (boo false), (boo false), (int 0), (int 0), (int 0), (int 0)]]) ?_ ?_
  · refine WP.block ?_
    refine WP.loopM (cachecontrol_Response_L0 r3) (fun s f w => match s with | (y_17, m19) => ∃ (H11 : Hp), f 2 = (ptr b1 0) ∧ f 3 = v4 ∧ f 4 = (mapv b9) ∧ f 33 = v4 ∧ f 34 = (int (r3.length : Int)) ∧ f 35 = (int y_17) ∧ Sl (α := Str) H11 v4 r3 ∧ St w0 H0 w H11 [.mp b9 (encm (fun x : Gcachecontrol_directive => (agg [(int x.fform), (str x.fvalue)])) m19), .box b1 32 [(boo false), (boo false), (boo false), (boo false), (boo false), (boo false), (boo false), (int 0), (int 0), (int 0), (int 0)]]) (0, ([] : List (Str × Gcachecontrol_directive))) m24 hr29 ?_ ?_
    · exact ⟨H6, rfl, rfl, rfl, rfl, rfl, rfl, R8, S⟩
    · intro s f w hI y25 hy26 hy27
      obtain ⟨y_17, m19⟩ := s
      obtain ⟨H11, h12, h13, h14, h15, h16, h18, R8, S⟩ := hI
      refine WP.seq ?_
      refine WP.region ?_
      refine WL.valw (R.lss h18 h16) ?_
      refine WL.nil ?_
      refine WP.seq ?_
      rcases condE hy26 with ⟨hc30, hy26⟩ | ⟨hc30, hy26⟩
      · refine WP.condT rfl hc30 ?_
        refine WP.skip ?_
        refine WP.seq ?_
        refine WP.block ?_
        refine WP.seq ?_
        refine WP.region ?_
        obtain ⟨x31, hx31, hy26⟩ := bindE hy26
        refine W.idx (α := Str) R8 h15 h18 el23 hx31 ?_
        rintro a32 _ hA33 rfl
        refine WL.valw (R.loadH (v := (str x31)) S rfl hA33 lay9 rfl) ?_
        refine WL.valw (R.as (v := (str x31)) rfl) ?_
        refine WL.nil ?_
        refine WP.seq ?_
        refine WP.region ?_
        refine WL.valw (R.mv (v := (str x31)) rfl) ?_
        obtain ⟨r34, hr34, hy26⟩ := bindE hy26
        refine W.call S rfl (cachecontrol_read_ok S.holds x31 hr34) ?_
        rintro v35 w36 H37 hle38 S rfl
        have R8 := Sl.mono R8 hle38
        have hA33 := At.mono hA33 hle38 (by simp)
        refine WL.valw (R.mv (v := (.tuple ⟨[(str r34.1), (agg [(int r34.2.fform), (str r34.2.fvalue)])]⟩)) rfl) ?_
        refine WL.valw (R.ext rfl rfl) ?_
        refine WL.valw (R.ext rfl rfl) ?_
        refine W.alloc [(int 0), (str [])] S zer54 ?_
        intro b39 w40 S
        refine WL.valw (R.as (v := (str r34.1)) rfl) ?_
        refine W.store (i := 0) [(int r34.2.fform), (str r34.2.fvalue)] S rfl rfl rfl lay54 rfl rfl (Nat.le_of_ble_eq_true rfl) rfl ?_
        intro w41 S
        refine WL.nil ?_
        refine WP.seq ?_
        refine WP.region ?_
        refine WL.valw (R.mv (v := (mapv b9)) h14) ?_
        refine WL.valw (R.mv (v := (str r34.1)) rfl) ?_
        obtain ⟨g42, hg42, hy26⟩ := bindE hy26
        refine WL.valw (v := (.tuple ⟨[(agg [(int g42.1.fform), (str g42.1.fvalue)]), (boo g42.2)]⟩)) (R.ofEq (R.lookup (fun x : Gcachecontrol_directive => (agg [(int x.fform), (str x.fvalue)])) (i := 1) (m := m19) (z := (⟨0, []⟩ : Gcachecontrol_directive)) S rfl rfl rfl Tryd.underlying52 Tryd.underlying9 mz54 rfl) (by rw [Option.some.inj hg42])) ?_
        refine WL.valw (R.mv (v := (.tuple ⟨[(agg [(int g42.1.fform), (str g42.1.fvalue)]), (boo g42.2)]⟩)) rfl) ?_
        refine WL.valw (R.ext rfl rfl) ?_
        refine WL.valw (R.ext rfl rfl) ?_
        refine W.alloc [(int 0), (str [])] S zer54 ?_
        intro b43 w44 S
        refine W.store (i := 0) [(int g42.1.fform), (str g42.1.fvalue)] S rfl rfl rfl lay54 rfl rfl (Nat.le_of_ble_eq_true rfl) rfl ?_
        intro w45 S
        refine WL.valw (R.as (v := (boo g42.2)) rfl) ?_
        refine WL.nil ?_
        refine WP.seq ?_
        refine WP.region ?_
        refine WL.valw (R.mv (v := (boo g42.2)) rfl) ?_
        refine WL.valw (R.not rfl) ?_
        refine WL.valw (R.mv (v := (boo (!g42.2))) rfl) ?_
        refine WL.grp 3 [53, 54] 55 (boo ((!g42.2) && (r34.1 != []))) ?_ ?_
        · rcases boolE (!g42.2) with hb46 | hb46
          · refine WL.gyes rfl rfl hb46 ?_
            refine WL.valw (R.mv (v := (str r34.1)) rfl) ?_
            refine WL.gyes rfl rfl hb46 ?_
            refine WL.valw (R.neqS (a := r34.1) (b := []) rfl rfl) ?_
            refine WL.valw (R.pickT rfl hb46 rfl) ?_
            exact WL.nil ⟨(andT hb46), (by repeat (first | refine agree_upd rfl ?_ | refine agree_upds' rfl ?_ | exact agree_refl)), rfl⟩
          · refine WL.gno rfl rfl hb46 ?_
            refine WL.gno rfl rfl hb46 ?_
            refine WL.valw (R.pickF rfl hb46 rfl) ?_
            exact WL.nil ⟨(andF hb46), (by repeat (first | refine agree_upd rfl ?_ | refine agree_upds' rfl ?_ | exact agree_refl)), rfl⟩
        · intro us
          refine WL.nil ?_
          rcases condE hy26 with ⟨hc48, hy26⟩ | ⟨hc48, hy26⟩
          · refine WP.condT rfl hc48 ?_
            refine WP.region ?_
            refine WL.valw (R.mv (v := (mapv b9)) h14) ?_
            refine WL.valw (R.mv (v := (str r34.1)) rfl) ?_
            refine WL.valw (R.loadBN (i := 1) (vs := [(int r34.2.fform), (str r34.2.fvalue)]) S rfl rfl lay54 rfl rfl) ?_
            refine W.mapUpdate (fun x : Gcachecontrol_directive => (agg [(int x.fform), (str x.fvalue)])) (i := 2) (m := m19) r34.2 S rfl rfl rfl rfl rfl Tryd.underlying52 Tryd.underlying9 ?_
            intro w49 S
            refine WL.nil ?_
            refine WP.region ?_
            refine WL.valw (R.add h18 rfl) ?_
            refine WL.valw (R.mv (v := (int (wr (y_17 + 1)))) rfl) ?_
            refine WL.nil ?_
            obtain rfl := Option.some.inj hy26
            exact ⟨rfl, ⟨H37, h12, h13, h14, h15, h16, rfl, R8, (S.drop _ (.cons _ (.cons _ (.cons_cons _ (.cons_cons _ .slnil)))))⟩⟩
          · refine WP.condF rfl hc48 ?_
            refine WP.skip ?_
            refine WP.region ?_
            refine WL.valw (R.add h18 rfl) ?_
            refine WL.valw (R.mv (v := (int (wr (y_17 + 1)))) rfl) ?_
            refine WL.nil ?_
            obtain rfl := Option.some.inj hy26
            exact ⟨rfl, ⟨H37, h12, h13, h14, h15, h16, rfl, R8, (S.drop _ (.cons _ (.cons _ (.cons_cons _ (.cons_cons _ .slnil)))))⟩⟩
      · refine WP.condF rfl hc30 ?_
        refine WP.exit ?_
        obtain rfl := Option.some.inj hy26
        obtain rfl := hy27
        exact ⟨H11, h12, h13, h14, R8, S⟩
  · rintro f w ⟨H20, h21, h22, h23, R8, S⟩
    refine WP.seq ?_
    refine WP.region ?_
    refine WL.valw (R.mv (v := (mapv b9)) h23) ?_
    obtain ⟨g50, hg50, h⟩ := bindE h
    refine WL.valw (v := (.tuple ⟨[(agg [(int g50.1.fform), (str g50.1.fvalue)]), (boo g50.2)]⟩)) (R.ofEq (R.lookup (fun x : Gcachecontrol_directive => (agg [(int x.fform), (str x.fvalue)])) (i := 0) (m := m24) (z := (⟨0, []⟩ : Gcachecontrol_directive)) S rfl rfl rfl Tryd.underlying52 Tryd.underlying9 mz54 rfl) (by rw [Option.some.inj hg50])) ?_
    refine WL.valw (R.mv (v := (.tuple ⟨[(agg [(int g50.1.fform), (str g50.1.fvalue)]), (boo g50.2)]⟩)) rfl) ?_
    refine WL.valw (R.ext rfl rfl) ?_
    refine WL.valw (R.ext rfl rfl) ?_
    refine W.alloc [(int 0), (str [])] S zer54 ?_
    intro b51 w52 S
    refine W.store (i := 0) [(int g50.1.fform), (str g50.1.fvalue)] S rfl rfl rfl lay54 rfl rfl (Nat.le_of_ble_eq_true rfl) rfl ?_
    intro w53 S
    refine WL.valw (R.as (v := (boo g50.2)) rfl) ?_
    refine WL.nil ?_
    refine WP.seq ?_
    refine WP.region ?_
    refine WL.valw (R.mv (v := (mapv b9)) h23) ?_
    obtain ⟨g54, hg54, h⟩ := bindE h
    refine WL.valw (v := (.tuple ⟨[(agg [(int g54.1.fform), (str g54.1.fvalue)]), (boo g54.2)]⟩)) (R.ofEq (R.lookup (fun x : Gcachecontrol_directive => (agg [(int x.fform), (str x.fvalue)])) (i := 1) (m := m24) (z := (⟨0, []⟩ : Gcachecontrol_directive)) S rfl rfl rfl Tryd.underlying52 Tryd.underlying9 mz54 rfl) (by rw [Option.some.inj hg54])) ?_
    refine WL.valw (R.mv (v := (.tuple ⟨[(agg [(int g54.1.fform), (str g54.1.fvalue)]), (boo g54.2)]⟩)) rfl) ?_
    refine WL.valw (R.ext rfl rfl) ?_
    refine WL.valw (R.ext rfl rfl) ?_
    refine W.alloc [(int 0), (str [])] S zer54 ?_
    intro b55 w56 S
    refine W.store (i := 0) [(int g54.1.fform), (str g54.1.fvalue)] S rfl rfl rfl lay54 rfl rfl (Nat.le_of_ble_eq_true rfl) rfl ?_
    intro w57 S
    refine WL.valw (R.as (v := (boo g54.2)) rfl) ?_
    refine WL.nil ?_
    refine WP.seq ?_
    refine WP.region ?_
    refine WL.valw (R.mv (v := (mapv b9)) h23) ?_
    obtain ⟨g58, hg58, h⟩ := bindE h
    refine WL.valw (v := (.tuple ⟨[(agg [(int g58.1.fform), (str g58.1.fvalue)]), (boo g58.2)]⟩)) (R.ofEq (R.lookup (fun x : Gcachecontrol_directive => (agg [(int x.fform), (str x.fvalue)])) (i := 2) (m := m24) (z := (⟨0, []⟩ : Gcachecontrol_directive)) S rfl rfl rfl Tryd.underlying52 Tryd.underlying9 mz54 rfl) (by rw [Option.some.inj hg58])) ?_
    refine WL.valw (R.mv (v := (.tuple ⟨[(agg [(int g58.1.fform), (str g58.1.fvalue)]), (boo g58.2)]⟩)) rfl) ?_
    refine WL.valw (R.ext rfl rfl) ?_
    refine WL.valw (R.ext rfl rfl) ?_
    refine W.alloc [(int 0), (str [])] S zer54 ?_
    intro b59 w60 S
    refine W.store (i := 0) [(int g58.1.fform), (str g58.1.fvalue)] S rfl rfl rfl lay54 rfl rfl (Nat.le_of_ble_eq_true rfl) rfl ?_
    intro w61 S
    refine WL.valw (R.as (v := (boo g58.2)) rfl) ?_
    refine WL.nil ?_
    refine WP.seq ?_
    refine WP.region ?_
    refine WL.valw (R.mv (v := (mapv b9)) h23) ?_
    obtain ⟨g62, hg62, h⟩ := bindE h
    refine WL.valw (v := (.tuple ⟨[(agg [(int g62.1.fform), (str g62.1.fvalue)]), (boo g62.2)]⟩)) (R.ofEq (R.lookup (fun x : Gcachecontrol_directive => (agg [(int x.fform), (str x.fvalue)])) (i := 3) (m := m24) (z := (⟨0, []⟩ : Gcachecontrol_directive)) S rfl rfl rfl Tryd.underlying52 Tryd.underlying9 mz54 rfl) (by rw [Option.some.inj hg62])) ?_
    refine WL.valw (R.mv (v := (.tuple ⟨[(agg [(int g62.1.fform), (str g62.1.fvalue)]), (boo g62.2)]⟩)) rfl) ?_
    refine WL.valw (R.ext rfl rfl) ?_
    refine WL.valw (R.ext rfl rfl) ?_
    refine W.alloc [(int 0), (str [])] S zer54 ?_
    intro b63 w64 S
    refine W.store (i := 0) [(int g62.1.fform), (str g62.1.fvalue)] S rfl rfl rfl lay54 rfl rfl (Nat.le_of_ble_eq_true rfl) rfl ?_
    intro w65 S
    refine WL.valw (R.as (v := (boo g62.2)) rfl) ?_
    refine WL.nil ?_
    refine WP.seq ?_
    refine WP.region ?_
    refine WL.valw (R.mv (v := (mapv b9)) h23) ?_
    obtain ⟨g66, hg66, h⟩ := bindE h
    refine WL.valw (v := (.tuple ⟨[(agg [(int g66.1.fform), (str g66.1.fvalue)]), (boo g66.2)]⟩)) (R.ofEq (R.lookup (fun x : Gcachecontrol_directive => (agg [(int x.fform), (str x.fvalue)])) (i := 4) (m := m24) (z := (⟨0, []⟩ : Gcachecontrol_directive)) S rfl rfl rfl Tryd.underlying52 Tryd.underlying9 mz54 rfl) (by rw [Option.some.inj hg66])) ?_
    refine WL.valw (R.mv (v := (.tuple ⟨[(agg [(int g66.1.fform), (str g66.1.fvalue)]), (boo g66.2)]⟩)) rfl) ?_
    refine WL.valw (R.ext rfl rfl) ?_
    refine WL.valw (R.ext rfl rfl) ?_
    refine W.alloc [(int 0), (str [])] S zer54 ?_
    intro b67 w68 S
    refine W.store (i := 0) [(int g66.1.fform), (str g66.1.fvalue)] S rfl rfl rfl lay54 rfl rfl (Nat.le_of_ble_eq_true rfl) rfl ?_
    intro w69 S
    refine WL.valw (R.as (v := (boo g66.2)) rfl) ?_
    refine WL.nil ?_
    refine WP.seq ?_
    refine WP.region ?_
    refine WL.valw (R.mv (v := (mapv b9)) h23) ?_
    obtain ⟨g70, hg70, h⟩ := bindE h
    refine WL.valw (v := (.tuple ⟨[(agg [(int g70.1.fform), (str g70.1.fvalue)]), (boo g70.2)]⟩)) (R.ofEq (R.lookup (fun x : Gcachecontrol_directive => (agg [(int x.fform), (str x.fvalue)])) (i := 5) (m := m24) (z := (⟨0, []⟩ : Gcachecontrol_directive)) S rfl rfl rfl Tryd.underlying52 Tryd.underlying9 mz54 rfl) (by rw [Option.some.inj hg70])) ?_
    refine WL.valw (R.mv (v := (.tuple ⟨[(agg [(int g70.1.fform), (str g70.1.fvalue)]), (boo g70.2)]⟩)) rfl) ?_
    refine WL.valw (R.ext rfl rfl) ?_
    refine WL.valw (R.ext rfl rfl) ?_
    refine W.alloc [(int 0), (str [])] S zer54 ?_
    intro b71 w72 S
    refine W.store (i := 0) [(int g70.1.fform), (str g70.1.fvalue)] S rfl rfl rfl lay54 rfl rfl (Nat.le_of_ble_eq_true rfl) rfl ?_
    intro w73 S
    refine WL.valw (R.as (v := (boo g70.2)) rfl) ?_
    refine WL.nil ?_
    refine WP.seq ?_
    refine WP.region ?_
    refine WL.valw (R.mv (v := (mapv b9)) h23) ?_
    obtain ⟨g74, hg74, h⟩ := bindE h
    refine WL.valw (v := (.tuple ⟨[(agg [(int g74.1.fform), (str g74.1.fvalue)]), (boo g74.2)]⟩)) (R.ofEq (R.lookup (fun x : Gcachecontrol_directive => (agg [(int x.fform), (str x.fvalue)])) (i := 6) (m := m24) (z := (⟨0, []⟩ : Gcachecontrol_directive)) S rfl rfl rfl Tryd.underlying52 Tryd.underlying9 mz54 rfl) (by rw [Option.some.inj hg74])) ?_
    refine WL.valw (R.mv (v := (.tuple ⟨[(agg [(int g74.1.fform), (str g74.1.fvalue)]), (boo g74.2)]⟩)) rfl) ?_
    refine WL.valw (R.ext rfl rfl) ?_
    refine WL.valw (R.ext rfl rfl) ?_
    refine W.alloc [(int 0), (str [])] S zer54 ?_
    intro b75 w76 S
    refine W.store (i := 0) [(int g74.1.fform), (str g74.1.fvalue)] S rfl rfl rfl lay54 rfl rfl (Nat.le_of_ble_eq_true rfl) rfl ?_
    intro w77 S
    refine WL.valw (R.as (v := (boo g74.2)) rfl) ?_
    refine WL.nil ?_
    refine WP.seq ?_
    refine WP.region ?_
    refine WL.valw (R.mv (v := (boo g50.2)) rfl) ?_
    refine WL.valw (R.mv (v := (boo g50.2)) rfl) ?_
    refine WL.grp 4 [97, 98, 99] 100 (boo (g50.2 || (decide (64 ≤ (r3.length : Int))))) ?_ ?_
    · rcases boolE g50.2 with hb78 | hb78
      · refine WL.gno rfl rfl hb78 ?_
        refine WL.gno rfl rfl hb78 ?_
        refine WL.gno rfl rfl hb78 ?_
        refine WL.valw (R.pickT rfl hb78 rfl) ?_
        exact WL.nil ⟨(orT hb78), (by repeat (first | refine agree_upd rfl ?_ | refine agree_upds' rfl ?_ | exact agree_refl)), rfl⟩
      · refine WL.gyes rfl rfl hb78 ?_
        refine WL.valw (R.mv (v := v4) h22) ?_
        refine WL.gyes rfl rfl hb78 ?_
        refine WL.valw (R.lenL (α := Str) (xs := r3) (H := H20) R8 rfl Tryd.underlying23) ?_
        refine WL.gyes rfl rfl hb78 ?_
        refine WL.valw (R.geq rfl rfl) ?_
        refine WL.valw (R.pickF rfl hb78 rfl) ?_
        exact WL.nil ⟨(orF hb78), (by repeat (first | refine agree_upd rfl ?_ | refine agree_upds' rfl ?_ | exact agree_refl)), rfl⟩
    · intro us
      refine WL.valw (R.mv (v := (boo g54.2)) rfl) ?_
      refine WL.valw (R.mv (v := (boo g58.2)) rfl) ?_
      refine WL.valw (R.mv (v := (boo g62.2)) rfl) ?_
      refine WL.valw (R.mv (v := (boo g66.2)) rfl) ?_
      refine WL.valw (R.mv (v := (boo g70.2)) rfl) ?_
      refine WL.valw (R.mv (v := (boo g74.2)) rfl) ?_
      refine WL.valw (R.build [(0, (boo (g50.2 || (decide (64 ≤ (r3.length : Int)))))), (1, (boo g54.2)), (2, (boo g58.2)), (3, (boo g62.2)), (4, (boo g66.2)), (5, (boo g70.2)), (6, (boo g74.2)), (7, (int (-1))), (8, (int (-1))), (9, (int (-1))), (10, (int (-1)))] [(boo (g50.2 || (decide (64 ≤ (r3.length : Int))))), (boo g54.2), (boo g58.2), (boo g62.2), (boo g66.2), (boo g70.2), (boo g74.2), (int (-1)), (int (-1)), (int (-1)), (int (-1))] bp32 zer32 (by kernel_rfl) (by kernel_rfl)) ?_
      refine W.alloc [(boo false), (boo false), (boo false), (boo false), (boo false), (boo false), (boo false), (int 0), (int 0), (int 0), (int 0)] S zer32 ?_
      intro b80 w81 S
      refine W.store (i := 0) [(boo (g50.2 || (decide (64 ≤ (r3.length : Int))))), (boo g54.2), (boo g58.2), (boo g62.2), (boo g66.2), (boo g70.2), (boo g74.2), (int (-1)), (int (-1)), (int (-1)), (int (-1))] S rfl rfl rfl lay32 rfl rfl (Nat.le_of_ble_eq_true rfl) rfl ?_
      intro w82 S
      refine WL.nil ?_
      refine WP.seq ?_
      refine WP.seq ?_
      refine WP.region ?_
      refine WL.valw (R.fieldB rfl fld32_7) ?_
      refine WL.valw (R.build [(0, (str [109, 97, 120, 45, 97, 103, 101])), (1, (ptr b80 7)), (2, (int 0)), (3, (int 0))] [(str [109, 97, 120, 45, 97, 103, 101]), (ptr b80 7), (int 0), (int 0)] bp59 zer59 rfl rfl) ?_
      refine WL.valw (R.fieldB rfl fld32_8) ?_
      refine WL.valw (R.build [(0, (str [115, 45, 109, 97, 120, 97, 103, 101])), (1, (ptr b80 8)), (2, (int 0)), (3, (int 0))] [(str [115, 45, 109, 97, 120, 97, 103, 101]), (ptr b80 8), (int 0), (int 0)] bp59 zer59 rfl rfl) ?_
      refine WL.valw (R.fieldB rfl fld32_9) ?_
      refine WL.valw (R.build [(0, (str [109, 105, 110, 45, 102, 114, 101, 115, 104])), (1, (ptr b80 9)), (2, (int 2147483647)), (3, (int 2147483647))] [(str [109, 105, 110, 45, 102, 114, 101, 115, 104]), (ptr b80 9), (int 2147483647), (int 2147483647)] bp59 zer59 rfl rfl) ?_
      refine WL.valw (R.fieldB rfl fld32_10) ?_
      refine WL.valw (R.build [(0, (str [109, 97, 120, 45, 115, 116, 97, 108, 101])), (1, (ptr b80 10)), (2, (int 2147483647)), (3, (int 0))] [(str [109, 97, 120, 45, 115, 116, 97, 108, 101]), (ptr b80 10), (int 2147483647), (int 0)] bp59 zer59 rfl rfl) ?_
      refine W.bslice (α := Raw 4) [(agg [(str [109, 97, 120, 45, 97, 103, 101]), (ptr b80 7), (int 0), (int 0)]), (agg [(str [115, 45, 109, 97, 120, 97, 103, 101]), (ptr b80 8), (int 0), (int 0)]), (agg [(str [109, 105, 110, 45, 102, 114, 101, 115, 104]), (ptr b80 9), (int 2147483647), (int 2147483647)]), (agg [(str [109, 97, 120, 45, 115, 116, 97, 108, 101]), (ptr b80 10), (int 2147483647), (int 0)])] ([⟨[(str [109, 97, 120, 45, 97, 103, 101]), (ptr b80 7), (int 0), (int 0)], rfl, rfl⟩, ⟨[(str [115, 45, 109, 97, 120, 97, 103, 101]), (ptr b80 8), (int 0), (int 0)], rfl, rfl⟩, ⟨[(str [109, 105, 110, 45, 102, 114, 101, 115, 104]), (ptr b80 9), (int 2147483647), (int 2147483647)], rfl, rfl⟩, ⟨[(str [109, 97, 120, 45, 115, 116, 97, 108, 101]), (ptr b80 10), (int 2147483647), (int 0)], rfl, rfl⟩] : List (Raw 4)) S el60 rfl rfl rfl (by decide) (encS ⟨rfl, rfl⟩ (encS ⟨rfl, rfl⟩ (encS ⟨rfl, rfl⟩ (encS ⟨rfl, rfl⟩ enc0)))) ?_
      intro u83 w84 H85 hle86 R87 S
      have R8 := Sl.mono R8 hle86
      refine WL.valw (v := (int 4)) (R.ofEq (R.lenL (α := Raw 4) (xs := ([⟨[(str [109, 97, 120, 45, 97, 103, 101]), (ptr b80 7), (int 0), (int 0)], rfl, rfl⟩, ⟨[(str [115, 45, 109, 97, 120, 97, 103, 101]), (ptr b80 8), (int 0), (int 0)], rfl, rfl⟩, ⟨[(str [109, 105, 110, 45, 102, 114, 101, 115, 104]), (ptr b80 9), (int 2147483647), (int 2147483647)], rfl, rfl⟩, ⟨[(str [109, 97, 120, 45, 115, 116, 97, 108, 101]), (ptr b80 10), (int 2147483647), (int 0)], rfl, rfl⟩] : List (Raw 4))) (H := H85) R87 rfl Tryd.underlying60) rfl) ?_
      refine WL.valw (R.mv (v := (int 0)) rfl) ?_
      refine WL.nil ?_
      refine WP.block ?_
      refine WP.loopRd 5 ?_
      refine RD.succ ?_
      refine WP.seq ?_
      refine WP.region ?_
      refine WL.valw (v := (boo true)) (R.ofEq (R.lss rfl rfl) rfl) ?_
      refine WL.nil ?_
      refine WP.seq ?_
      refine WP.condT (b := true) rfl rfl ?_
      refine WP.skip ?_
      refine WP.seq ?_
      obtain ⟨m95, hj96, h⟩ := bindE h
      refine WP.cut (fun f w => ∃ (H88 : Hp), f 2 = (ptr b1 0) ∧ f 4 = (mapv b9) ∧ f 25 = (ptr b80 0) ∧ f 116 = u83 ∧ f 117 = (int 4) ∧ f 118 = (int 0) ∧ Sl (α := Raw 4) H88 u83 ([⟨[(str [109, 97, 120, 45, 97, 103, 101]), (ptr b80 7), (int 0), (int 0)], rfl, rfl⟩, ⟨[(str [115, 45, 109, 97, 120, 97, 103, 101]), (ptr b80 8), (int 0), (int 0)], rfl, rfl⟩, ⟨[(str [109, 105, 110, 45, 102, 114, 101, 115, 104]), (ptr b80 9), (int 2147483647), (int 2147483647)], rfl, rfl⟩, ⟨[(str [109, 97, 120, 45, 115, 116, 97, 108, 101]), (ptr b80 10), (int 2147483647), (int 0)], rfl, rfl⟩] : List (Raw 4)) ∧ St w0 H0 w H88 [.row u83 59 4 ([⟨[(str [109, 97, 120, 45, 97, 103, 101]), (ptr b80 7), (int 0), (int 0)], rfl, rfl⟩, ⟨[(str [115, 45, 109, 97, 120, 97, 103, 101]), (ptr b80 8), (int 0), (int 0)], rfl, rfl⟩, ⟨[(str [109, 105, 110, 45, 102, 114, 101, 115, 104]), (ptr b80 9), (int 2147483647), (int 2147483647)], rfl, rfl⟩, ⟨[(str [109, 97, 120, 45, 115, 116, 97, 108, 101]), (ptr b80 10), (int 2147483647), (int 0)], rfl, rfl⟩] : List (Raw 4)).length, .box b80 32 [(boo (g50.2 || (decide (64 ≤ (r3.length : Int))))), (boo g54.2), (boo g58.2), (boo g62.2), (boo g66.2), (boo g70.2), (boo g74.2), (int m95), (int (-1)), (int (-1)), (int (-1))], .mp b9 (encm (fun x : Gcachecontrol_directive => (agg [(int x.fform), (str x.fvalue)])) m24), .box b1 32 [(boo false), (boo false), (boo false), (boo false), (boo false), (boo false), (boo false), (int 0), (int 0), (int 0), (int 0)]]) ?_ ?_
      · refine WP.block ?_
        refine WP.seq ?_
        refine WP.region ?_
        refine W.idx (α := Raw 4) (c := ⟨[(str [109, 97, 120, 45, 97, 103, 101]), (ptr b80 7), (int 0), (int 0)], rfl, rfl⟩) R87 rfl rfl el60 rfl ?_
        rintro a98 _ hA99 rfl
        refine WL.valw (R.loadHN (vs := [(str [109, 97, 120, 45, 97, 103, 101]), (ptr b80 7), (int 0), (int 0)]) S rfl hA99 lay59 rfl rfl) ?_
        refine W.alloc [(str []), (.pointer none), (int 0), (int 0)] S zer59 ?_
        intro b100 w101 S
        refine W.store (i := 0) [(str [109, 97, 120, 45, 97, 103, 101]), (ptr b80 7), (int 0), (int 0)] S rfl rfl rfl lay59 rfl rfl (Nat.le_of_ble_eq_true rfl) rfl ?_
        intro w102 S
        refine WL.nil ?_
        refine WP.seq ?_
        refine WP.region ?_
        refine WL.valw (R.mv (v := (mapv b9)) h23) ?_
        refine WL.valw (R.fieldB rfl fld59_0) ?_
        refine WL.valw (R.loadB (i := 0) (v := (str [109, 97, 120, 45, 97, 103, 101])) S rfl rfl lay9 rfl) ?_
        obtain ⟨g103, hg103, hj96⟩ := bindE hj96
        refine WL.valw (v := (.tuple ⟨[(agg [(int g103.1.fform), (str g103.1.fvalue)]), (boo g103.2)]⟩)) (R.ofEq (R.lookup (fun x : Gcachecontrol_directive => (agg [(int x.fform), (str x.fvalue)])) (i := 10) (m := m24) (z := (⟨0, []⟩ : Gcachecontrol_directive)) S rfl rfl rfl Tryd.underlying52 Tryd.underlying9 mz54 rfl) (by rw [Option.some.inj hg103])) ?_
        refine WL.valw (R.mv (v := (.tuple ⟨[(agg [(int g103.1.fform), (str g103.1.fvalue)]), (boo g103.2)]⟩)) rfl) ?_
        refine WL.valw (R.ext rfl rfl) ?_
        refine WL.valw (R.ext rfl rfl) ?_
        refine W.alloc [(int 0), (str [])] S zer54 ?_
        intro b104 w105 S
        refine W.store (i := 0) [(int g103.1.fform), (str g103.1.fvalue)] S rfl rfl rfl lay54 rfl rfl (Nat.le_of_ble_eq_true rfl) rfl ?_
        intro w106 S
        refine WL.valw (R.as (v := (boo g103.2)) rfl) ?_
        refine WL.nil ?_
        refine WP.seq ?_
        refine WP.region ?_
        refine WL.valw (R.mv (v := (boo g103.2)) rfl) ?_
        refine WL.nil ?_
        rcases condE hj96 with ⟨hc107, hj96⟩ | ⟨hc107, hj96⟩
        · refine WP.condT rfl hc107 ?_
          refine WP.quietTail 9 S (by kernel_rfl) (by kernel_rfl) ?_
          refine WQ.val (fun _ _ => (R.fieldB rfl fld59_1)) ?_
          refine WQ.val (fun w hw => by obtain ⟨_, hq, S⟩ := hw; exact (R.loadB (i := 1) (v := (ptr b80 7)) S rfl rfl lay58 rfl)) ?_
          refine WQ.val (fun w hw => by obtain ⟨_, hq, S⟩ := hw; exact (R.loadBN (i := 0) (vs := [(int g103.1.fform), (str g103.1.fvalue)]) S rfl rfl lay54 rfl rfl)) ?_
          refine WQ.val (fun _ _ => (R.fieldB rfl fld59_2)) ?_
          refine WQ.val (fun w hw => by obtain ⟨_, hq, S⟩ := hw; exact (R.loadB (i := 1) (v := (int 0)) S rfl rfl lay3 rfl)) ?_
          refine WQ.val (fun _ _ => (R.fieldB rfl fld59_3)) ?_
          refine WQ.val (fun w hw => by obtain ⟨_, hq, S⟩ := hw; exact (R.loadB (i := 1) (v := (int 0)) S rfl rfl lay3 rfl)) ?_
          obtain ⟨r111, hr111, hj96⟩ := bindE hj96
          refine WQ.call (v := (int r111)) rfl (fun w H' hq S => cachecontrol_number_ok S.holds g103.1 0 0 hr111) ?_
          refine WQ.val (fun _ _ => (R.nilCheckB rfl)) ?_
          refine WQ.nil ?_
          intro w108 H109 hle110 S
          have R8 := Sl.mono R8 hle110
          have R87 := Sl.mono R87 hle110
          have hA99 := At.mono hA99 hle110 (by simp)
          refine W.store (i := 3) [(boo (g50.2 || (decide (64 ≤ (r3.length : Int))))), (boo g54.2), (boo g58.2), (boo g62.2), (boo g66.2), (boo g70.2), (boo g74.2), (int r111), (int (-1)), (int (-1)), (int (-1))] S rfl rfl rfl lay3 rfl rfl (Nat.le_of_ble_eq_true rfl) rfl ?_
          intro w116 S
          refine WL.nil ?_
          obtain rfl := Option.some.inj hj96
          exact ⟨H109, h21, h23, rfl, rfl, rfl, rfl, R87, (S.drop _ (.cons _ (.cons _ (.cons_cons _ (.cons_cons _ (.cons _ (.cons _ (.cons _ (.cons _ (.cons _ (.cons _ (.cons _ (.cons_cons _ (.cons_cons _ .slnil))))))))))))))⟩
        · refine WP.condF rfl hc107 ?_
          refine WP.skip ?_
          obtain rfl := Option.some.inj hj96
          exact ⟨H85, h21, h23, rfl, rfl, rfl, rfl, R87, (S.drop _ (.cons _ (.cons _ (.cons_cons _ (.cons_cons _ (.cons _ (.cons _ (.cons _ (.cons _ (.cons _ (.cons _ (.cons _ (.cons_cons _ (.cons_cons _ .slnil))))))))))))))⟩
      · rintro f w ⟨H88, h89, h90, h91, h92, h93, h94, R87, S⟩
        refine WP.region ?_
        refine WL.valw (v := (int 1)) (R.ofEq (R.add h94 rfl) rfl) ?_
        refine WL.valw (R.mv (v := (int 1)) rfl) ?_
        refine WL.nil ?_
        refine RD.succ ?_
        refine WP.seq ?_
        refine WP.region ?_
        refine WL.valw (v := (boo true)) (R.ofEq (R.lss rfl h93) rfl) ?_
        refine WL.nil ?_
        refine WP.seq ?_
        refine WP.condT (b := true) rfl rfl ?_
        refine WP.skip ?_
        refine WP.seq ?_
        obtain ⟨m124, hj125, h⟩ := bindE h
        refine WP.cut (fun f w => ∃ (H117 : Hp), f 2 = (ptr b1 0) ∧ f 4 = (mapv b9) ∧ f 25 = (ptr b80 0) ∧ f 116 = u83 ∧ f 117 = (int 4) ∧ f 118 = (int 1) ∧ Sl (α := Raw 4) H117 u83 ([⟨[(str [109, 97, 120, 45, 97, 103, 101]), (ptr b80 7), (int 0), (int 0)], rfl, rfl⟩, ⟨[(str [115, 45, 109, 97, 120, 97, 103, 101]), (ptr b80 8), (int 0), (int 0)], rfl, rfl⟩, ⟨[(str [109, 105, 110, 45, 102, 114, 101, 115, 104]), (ptr b80 9), (int 2147483647), (int 2147483647)], rfl, rfl⟩, ⟨[(str [109, 97, 120, 45, 115, 116, 97, 108, 101]), (ptr b80 10), (int 2147483647), (int 0)], rfl, rfl⟩] : List (Raw 4)) ∧ St w0 H0 w H117 [.row u83 59 4 ([⟨[(str [109, 97, 120, 45, 97, 103, 101]), (ptr b80 7), (int 0), (int 0)], rfl, rfl⟩, ⟨[(str [115, 45, 109, 97, 120, 97, 103, 101]), (ptr b80 8), (int 0), (int 0)], rfl, rfl⟩, ⟨[(str [109, 105, 110, 45, 102, 114, 101, 115, 104]), (ptr b80 9), (int 2147483647), (int 2147483647)], rfl, rfl⟩, ⟨[(str [109, 97, 120, 45, 115, 116, 97, 108, 101]), (ptr b80 10), (int 2147483647), (int 0)], rfl, rfl⟩] : List (Raw 4)).length, .box b80 32 [(boo (g50.2 || (decide (64 ≤ (r3.length : Int))))), (boo g54.2), (boo g58.2), (boo g62.2), (boo g66.2), (boo g70.2), (boo g74.2), (int m95), (int m124), (int (-1)), (int (-1))], .mp b9 (encm (fun x : Gcachecontrol_directive => (agg [(int x.fform), (str x.fvalue)])) m24), .box b1 32 [(boo false), (boo false), (boo false), (boo false), (boo false), (boo false), (boo false), (int 0), (int 0), (int 0), (int 0)]]) ?_ ?_
        · refine WP.block ?_
          refine WP.seq ?_
          refine WP.region ?_
          refine W.idx (α := Raw 4) (c := ⟨[(str [115, 45, 109, 97, 120, 97, 103, 101]), (ptr b80 8), (int 0), (int 0)], rfl, rfl⟩) R87 h92 rfl el60 rfl ?_
          rintro a127 _ hA128 rfl
          refine WL.valw (R.loadHN (vs := [(str [115, 45, 109, 97, 120, 97, 103, 101]), (ptr b80 8), (int 0), (int 0)]) S rfl hA128 lay59 rfl rfl) ?_
          refine W.alloc [(str []), (.pointer none), (int 0), (int 0)] S zer59 ?_
          intro b129 w130 S
          refine W.store (i := 0) [(str [115, 45, 109, 97, 120, 97, 103, 101]), (ptr b80 8), (int 0), (int 0)] S rfl rfl rfl lay59 rfl rfl (Nat.le_of_ble_eq_true rfl) rfl ?_
          intro w131 S
          refine WL.nil ?_
          refine WP.seq ?_
          refine WP.region ?_
          refine WL.valw (R.mv (v := (mapv b9)) h90) ?_
          refine WL.valw (R.fieldB rfl fld59_0) ?_
          refine WL.valw (R.loadB (i := 0) (v := (str [115, 45, 109, 97, 120, 97, 103, 101])) S rfl rfl lay9 rfl) ?_
          obtain ⟨g132, hg132, hj125⟩ := bindE hj125
          refine WL.valw (v := (.tuple ⟨[(agg [(int g132.1.fform), (str g132.1.fvalue)]), (boo g132.2)]⟩)) (R.ofEq (R.lookup (fun x : Gcachecontrol_directive => (agg [(int x.fform), (str x.fvalue)])) (i := 3) (m := m24) (z := (⟨0, []⟩ : Gcachecontrol_directive)) S rfl rfl rfl Tryd.underlying52 Tryd.underlying9 mz54 rfl) (by rw [Option.some.inj hg132])) ?_
          refine WL.valw (R.mv (v := (.tuple ⟨[(agg [(int g132.1.fform), (str g132.1.fvalue)]), (boo g132.2)]⟩)) rfl) ?_
          refine WL.valw (R.ext rfl rfl) ?_
          refine WL.valw (R.ext rfl rfl) ?_
          refine W.alloc [(int 0), (str [])] S zer54 ?_
          intro b133 w134 S
          refine W.store (i := 0) [(int g132.1.fform), (str g132.1.fvalue)] S rfl rfl rfl lay54 rfl rfl (Nat.le_of_ble_eq_true rfl) rfl ?_
          intro w135 S
          refine WL.valw (R.as (v := (boo g132.2)) rfl) ?_
          refine WL.nil ?_
          refine WP.seq ?_
          refine WP.region ?_
          refine WL.valw (R.mv (v := (boo g132.2)) rfl) ?_
          refine WL.nil ?_
          rcases condE hj125 with ⟨hc136, hj125⟩ | ⟨hc136, hj125⟩
          · refine WP.condT rfl hc136 ?_
            refine WP.quietTail 9 S (by kernel_rfl) (by kernel_rfl) ?_
            refine WQ.val (fun _ _ => (R.fieldB rfl fld59_1)) ?_
            refine WQ.val (fun w hw => by obtain ⟨_, hq, S⟩ := hw; exact (R.loadB (i := 1) (v := (ptr b80 8)) S rfl rfl lay58 rfl)) ?_
            refine WQ.val (fun w hw => by obtain ⟨_, hq, S⟩ := hw; exact (R.loadBN (i := 0) (vs := [(int g132.1.fform), (str g132.1.fvalue)]) S rfl rfl lay54 rfl rfl)) ?_
            refine WQ.val (fun _ _ => (R.fieldB rfl fld59_2)) ?_
            refine WQ.val (fun w hw => by obtain ⟨_, hq, S⟩ := hw; exact (R.loadB (i := 1) (v := (int 0)) S rfl rfl lay3 rfl)) ?_
            refine WQ.val (fun _ _ => (R.fieldB rfl fld59_3)) ?_
            refine WQ.val (fun w hw => by obtain ⟨_, hq, S⟩ := hw; exact (R.loadB (i := 1) (v := (int 0)) S rfl rfl lay3 rfl)) ?_
            obtain ⟨r140, hr140, hj125⟩ := bindE hj125
            refine WQ.call (v := (int r140)) rfl (fun w H' hq S => cachecontrol_number_ok S.holds g132.1 0 0 hr140) ?_
            refine WQ.val (fun _ _ => (R.nilCheckB rfl)) ?_
            refine WQ.nil ?_
            intro w137 H138 hle139 S
            have R87 := Sl.mono R87 hle139
            have hA128 := At.mono hA128 hle139 (by simp)
            refine W.store (i := 3) [(boo (g50.2 || (decide (64 ≤ (r3.length : Int))))), (boo g54.2), (boo g58.2), (boo g62.2), (boo g66.2), (boo g70.2), (boo g74.2), (int m95), (int r140), (int (-1)), (int (-1))] S rfl rfl rfl lay3 rfl rfl (Nat.le_of_ble_eq_true rfl) rfl ?_
            intro w145 S
            refine WL.nil ?_
            obtain rfl := Option.some.inj hj125
            exact ⟨H138, h89, h90, h91, h92, h93, rfl, R87, (S.drop _ (.cons _ (.cons _ (.cons_cons _ (.cons_cons _ (.cons_cons _ (.cons_cons _ .slnil)))))))⟩
          · refine WP.condF rfl hc136 ?_
            refine WP.skip ?_
            obtain rfl := Option.some.inj hj125
            exact ⟨H88, h89, h90, h91, h92, h93, rfl, R87, (S.drop _ (.cons _ (.cons _ (.cons_cons _ (.cons_cons _ (.cons_cons _ (.cons_cons _ .slnil)))))))⟩
        · rintro f w ⟨H117, h118, h119, h120, h121, h122, h123, R87, S⟩
          refine WP.region ?_
          refine WL.valw (v := (int 2)) (R.ofEq (R.add h123 rfl) rfl) ?_
          refine WL.valw (R.mv (v := (int 2)) rfl) ?_
          refine WL.nil ?_
          refine RD.succ ?_
          refine WP.seq ?_
          refine WP.region ?_
          refine WL.valw (v := (boo true)) (R.ofEq (R.lss rfl h122) rfl) ?_
          refine WL.nil ?_
          refine WP.seq ?_
          refine WP.condT (b := true) rfl rfl ?_
          refine WP.skip ?_
          refine WP.seq ?_
          obtain ⟨m153, hj154, h⟩ := bindE h
          refine WP.cut (fun f w => ∃ (H146 : Hp), f 2 = (ptr b1 0) ∧ f 4 = (mapv b9) ∧ f 25 = (ptr b80 0) ∧ f 116 = u83 ∧ f 117 = (int 4) ∧ f 118 = (int 2) ∧ Sl (α := Raw 4) H146 u83 ([⟨[(str [109, 97, 120, 45, 97, 103, 101]), (ptr b80 7), (int 0), (int 0)], rfl, rfl⟩, ⟨[(str [115, 45, 109, 97, 120, 97, 103, 101]), (ptr b80 8), (int 0), (int 0)], rfl, rfl⟩, ⟨[(str [109, 105, 110, 45, 102, 114, 101, 115, 104]), (ptr b80 9), (int 2147483647), (int 2147483647)], rfl, rfl⟩, ⟨[(str [109, 97, 120, 45, 115, 116, 97, 108, 101]), (ptr b80 10), (int 2147483647), (int 0)], rfl, rfl⟩] : List (Raw 4)) ∧ St w0 H0 w H146 [.row u83 59 4 ([⟨[(str [109, 97, 120, 45, 97, 103, 101]), (ptr b80 7), (int 0), (int 0)], rfl, rfl⟩, ⟨[(str [115, 45, 109, 97, 120, 97, 103, 101]), (ptr b80 8), (int 0), (int 0)], rfl, rfl⟩, ⟨[(str [109, 105, 110, 45, 102, 114, 101, 115, 104]), (ptr b80 9), (int 2147483647), (int 2147483647)], rfl, rfl⟩, ⟨[(str [109, 97, 120, 45, 115, 116, 97, 108, 101]), (ptr b80 10), (int 2147483647), (int 0)], rfl, rfl⟩] : List (Raw 4)).length, .box b80 32 [(boo (g50.2 || (decide (64 ≤ (r3.length : Int))))), (boo g54.2), (boo g58.2), (boo g62.2), (boo g66.2), (boo g70.2), (boo g74.2), (int m95), (int m124), (int m153), (int (-1))], .mp b9 (encm (fun x : Gcachecontrol_directive => (agg [(int x.fform), (str x.fvalue)])) m24), .box b1 32 [(boo false), (boo false), (boo false), (boo false), (boo false), (boo false), (boo false), (int 0), (int 0), (int 0), (int 0)]]) ?_ ?_
          · refine WP.block ?_
            refine WP.seq ?_
            refine WP.region ?_
            refine W.idx (α := Raw 4) (c := ⟨[(str [109, 105, 110, 45, 102, 114, 101, 115, 104]), (ptr b80 9), (int 2147483647), (int 2147483647)], rfl, rfl⟩) R87 h121 rfl el60 rfl ?_
            rintro a156 _ hA157 rfl
            refine WL.valw (R.loadHN (vs := [(str [109, 105, 110, 45, 102, 114, 101, 115, 104]), (ptr b80 9), (int 2147483647), (int 2147483647)]) S rfl hA157 lay59 rfl rfl) ?_
            refine W.alloc [(str []), (.pointer none), (int 0), (int 0)] S zer59 ?_
            intro b158 w159 S
            refine W.store (i := 0) [(str [109, 105, 110, 45, 102, 114, 101, 115, 104]), (ptr b80 9), (int 2147483647), (int 2147483647)] S rfl rfl rfl lay59 rfl rfl (Nat.le_of_ble_eq_true rfl) rfl ?_
            intro w160 S
            refine WL.nil ?_
            refine WP.seq ?_
            refine WP.region ?_
            refine WL.valw (R.mv (v := (mapv b9)) h119) ?_
            refine WL.valw (R.fieldB rfl fld59_0) ?_
            refine WL.valw (R.loadB (i := 0) (v := (str [109, 105, 110, 45, 102, 114, 101, 115, 104])) S rfl rfl lay9 rfl) ?_
            obtain ⟨g161, hg161, hj154⟩ := bindE hj154
            refine WL.valw (v := (.tuple ⟨[(agg [(int g161.1.fform), (str g161.1.fvalue)]), (boo g161.2)]⟩)) (R.ofEq (R.lookup (fun x : Gcachecontrol_directive => (agg [(int x.fform), (str x.fvalue)])) (i := 3) (m := m24) (z := (⟨0, []⟩ : Gcachecontrol_directive)) S rfl rfl rfl Tryd.underlying52 Tryd.underlying9 mz54 rfl) (by rw [Option.some.inj hg161])) ?_
            refine WL.valw (R.mv (v := (.tuple ⟨[(agg [(int g161.1.fform), (str g161.1.fvalue)]), (boo g161.2)]⟩)) rfl) ?_
            refine WL.valw (R.ext rfl rfl) ?_
            refine WL.valw (R.ext rfl rfl) ?_
            refine W.alloc [(int 0), (str [])] S zer54 ?_
            intro b162 w163 S
            refine W.store (i := 0) [(int g161.1.fform), (str g161.1.fvalue)] S rfl rfl rfl lay54 rfl rfl (Nat.le_of_ble_eq_true rfl) rfl ?_
            intro w164 S
            refine WL.valw (R.as (v := (boo g161.2)) rfl) ?_
            refine WL.nil ?_
            refine WP.seq ?_
            refine WP.region ?_
            refine WL.valw (R.mv (v := (boo g161.2)) rfl) ?_
            refine WL.nil ?_
            rcases condE hj154 with ⟨hc165, hj154⟩ | ⟨hc165, hj154⟩
            · refine WP.condT rfl hc165 ?_
              refine WP.quietTail 9 S (by kernel_rfl) (by kernel_rfl) ?_
              refine WQ.val (fun _ _ => (R.fieldB rfl fld59_1)) ?_
              refine WQ.val (fun w hw => by obtain ⟨_, hq, S⟩ := hw; exact (R.loadB (i := 1) (v := (ptr b80 9)) S rfl rfl lay58 rfl)) ?_
              refine WQ.val (fun w hw => by obtain ⟨_, hq, S⟩ := hw; exact (R.loadBN (i := 0) (vs := [(int g161.1.fform), (str g161.1.fvalue)]) S rfl rfl lay54 rfl rfl)) ?_
              refine WQ.val (fun _ _ => (R.fieldB rfl fld59_2)) ?_
              refine WQ.val (fun w hw => by obtain ⟨_, hq, S⟩ := hw; exact (R.loadB (i := 1) (v := (int 2147483647)) S rfl rfl lay3 rfl)) ?_
              refine WQ.val (fun _ _ => (R.fieldB rfl fld59_3)) ?_
              refine WQ.val (fun w hw => by obtain ⟨_, hq, S⟩ := hw; exact (R.loadB (i := 1) (v := (int 2147483647)) S rfl rfl lay3 rfl)) ?_
              obtain ⟨r169, hr169, hj154⟩ := bindE hj154
              refine WQ.call (v := (int r169)) rfl (fun w H' hq S => cachecontrol_number_ok S.holds g161.1 2147483647 2147483647 hr169) ?_
              refine WQ.val (fun _ _ => (R.nilCheckB rfl)) ?_
              refine WQ.nil ?_
              intro w166 H167 hle168 S
              have R87 := Sl.mono R87 hle168
              have hA157 := At.mono hA157 hle168 (by simp)
              refine W.store (i := 3) [(boo (g50.2 || (decide (64 ≤ (r3.length : Int))))), (boo g54.2), (boo g58.2), (boo g62.2), (boo g66.2), (boo g70.2), (boo g74.2), (int m95), (int m124), (int r169), (int (-1))] S rfl rfl rfl lay3 rfl rfl (Nat.le_of_ble_eq_true rfl) rfl ?_
              intro w174 S
              refine WL.nil ?_
              obtain rfl := Option.some.inj hj154
              exact ⟨H167, h118, h119, h120, h121, h122, rfl, R87, (S.drop _ (.cons _ (.cons _ (.cons_cons _ (.cons_cons _ (.cons_cons _ (.cons_cons _ .slnil)))))))⟩
            · refine WP.condF rfl hc165 ?_
              refine WP.skip ?_
              obtain rfl := Option.some.inj hj154
              exact ⟨H117, h118, h119, h120, h121, h122, rfl, R87, (S.drop _ (.cons _ (.cons _ (.cons_cons _ (.cons_cons _ (.cons_cons _ (.cons_cons _ .slnil)))))))⟩
          · rintro f w ⟨H146, h147, h148, h149, h150, h151, h152, R87, S⟩
            refine WP.region ?_
            refine WL.valw (v := (int 3)) (R.ofEq (R.add h152 rfl) rfl) ?_
            refine WL.valw (R.mv (v := (int 3)) rfl) ?_
            refine WL.nil ?_
            refine RD.succ ?_
            refine WP.seq ?_
            refine WP.region ?_
            refine WL.valw (v := (boo true)) (R.ofEq (R.lss rfl h151) rfl) ?_
            refine WL.nil ?_
            refine WP.seq ?_
            refine WP.condT (b := true) rfl rfl ?_
            refine WP.skip ?_
            refine WP.seq ?_
            obtain ⟨m182, hj183, h⟩ := bindE h
            refine WP.cut (fun f w => ∃ (H175 : Hp), f 2 = (ptr b1 0) ∧ f 4 = (mapv b9) ∧ f 25 = (ptr b80 0) ∧ f 116 = u83 ∧ f 117 = (int 4) ∧ f 118 = (int 3) ∧ Sl (α := Raw 4) H175 u83 ([⟨[(str [109, 97, 120, 45, 97, 103, 101]), (ptr b80 7), (int 0), (int 0)], rfl, rfl⟩, ⟨[(str [115, 45, 109, 97, 120, 97, 103, 101]), (ptr b80 8), (int 0), (int 0)], rfl, rfl⟩, ⟨[(str [109, 105, 110, 45, 102, 114, 101, 115, 104]), (ptr b80 9), (int 2147483647), (int 2147483647)], rfl, rfl⟩, ⟨[(str [109, 97, 120, 45, 115, 116, 97, 108, 101]), (ptr b80 10), (int 2147483647), (int 0)], rfl, rfl⟩] : List (Raw 4)) ∧ St w0 H0 w H175 [.row u83 59 4 ([⟨[(str [109, 97, 120, 45, 97, 103, 101]), (ptr b80 7), (int 0), (int 0)], rfl, rfl⟩, ⟨[(str [115, 45, 109, 97, 120, 97, 103, 101]), (ptr b80 8), (int 0), (int 0)], rfl, rfl⟩, ⟨[(str [109, 105, 110, 45, 102, 114, 101, 115, 104]), (ptr b80 9), (int 2147483647), (int 2147483647)], rfl, rfl⟩, ⟨[(str [109, 97, 120, 45, 115, 116, 97, 108, 101]), (ptr b80 10), (int 2147483647), (int 0)], rfl, rfl⟩] : List (Raw 4)).length, .box b80 32 [(boo (g50.2 || (decide (64 ≤ (r3.length : Int))))), (boo g54.2), (boo g58.2), (boo g62.2), (boo g66.2), (boo g70.2), (boo g74.2), (int m95), (int m124), (int m153), (int m182)], .mp b9 (encm (fun x : Gcachecontrol_directive => (agg [(int x.fform), (str x.fvalue)])) m24), .box b1 32 [(boo false), (boo false), (boo false), (boo false), (boo false), (boo false), (boo false), (int 0), (int 0), (int 0), (int 0)]]) ?_ ?_
            · refine WP.block ?_
              refine WP.seq ?_
              refine WP.region ?_
              refine W.idx (α := Raw 4) (c := ⟨[(str [109, 97, 120, 45, 115, 116, 97, 108, 101]), (ptr b80 10), (int 2147483647), (int 0)], rfl, rfl⟩) R87 h150 rfl el60 rfl ?_
              rintro a185 _ hA186 rfl
              refine WL.valw (R.loadHN (vs := [(str [109, 97, 120, 45, 115, 116, 97, 108, 101]), (ptr b80 10), (int 2147483647), (int 0)]) S rfl hA186 lay59 rfl rfl) ?_
              refine W.alloc [(str []), (.pointer none), (int 0), (int 0)] S zer59 ?_
              intro b187 w188 S
              refine W.store (i := 0) [(str [109, 97, 120, 45, 115, 116, 97, 108, 101]), (ptr b80 10), (int 2147483647), (int 0)] S rfl rfl rfl lay59 rfl rfl (Nat.le_of_ble_eq_true rfl) rfl ?_
              intro w189 S
              refine WL.nil ?_
              refine WP.seq ?_
              refine WP.region ?_
              refine WL.valw (R.mv (v := (mapv b9)) h148) ?_
              refine WL.valw (R.fieldB rfl fld59_0) ?_
              refine WL.valw (R.loadB (i := 0) (v := (str [109, 97, 120, 45, 115, 116, 97, 108, 101])) S rfl rfl lay9 rfl) ?_
              obtain ⟨g190, hg190, hj183⟩ := bindE hj183
              refine WL.valw (v := (.tuple ⟨[(agg [(int g190.1.fform), (str g190.1.fvalue)]), (boo g190.2)]⟩)) (R.ofEq (R.lookup (fun x : Gcachecontrol_directive => (agg [(int x.fform), (str x.fvalue)])) (i := 3) (m := m24) (z := (⟨0, []⟩ : Gcachecontrol_directive)) S rfl rfl rfl Tryd.underlying52 Tryd.underlying9 mz54 rfl) (by rw [Option.some.inj hg190])) ?_
              refine WL.valw (R.mv (v := (.tuple ⟨[(agg [(int g190.1.fform), (str g190.1.fvalue)]), (boo g190.2)]⟩)) rfl) ?_
              refine WL.valw (R.ext rfl rfl) ?_
              refine WL.valw (R.ext rfl rfl) ?_
              refine W.alloc [(int 0), (str [])] S zer54 ?_
              intro b191 w192 S
              refine W.store (i := 0) [(int g190.1.fform), (str g190.1.fvalue)] S rfl rfl rfl lay54 rfl rfl (Nat.le_of_ble_eq_true rfl) rfl ?_
              intro w193 S
              refine WL.valw (R.as (v := (boo g190.2)) rfl) ?_
              refine WL.nil ?_
              refine WP.seq ?_
              refine WP.region ?_
              refine WL.valw (R.mv (v := (boo g190.2)) rfl) ?_
              refine WL.nil ?_
              rcases condE hj183 with ⟨hc194, hj183⟩ | ⟨hc194, hj183⟩
              · refine WP.condT rfl hc194 ?_
                refine WP.quietTail 9 S (by kernel_rfl) (by kernel_rfl) ?_
                refine WQ.val (fun _ _ => (R.fieldB rfl fld59_1)) ?_
                refine WQ.val (fun w hw => by obtain ⟨_, hq, S⟩ := hw; exact (R.loadB (i := 1) (v := (ptr b80 10)) S rfl rfl lay58 rfl)) ?_
                refine WQ.val (fun w hw => by obtain ⟨_, hq, S⟩ := hw; exact (R.loadBN (i := 0) (vs := [(int g190.1.fform), (str g190.1.fvalue)]) S rfl rfl lay54 rfl rfl)) ?_
                refine WQ.val (fun _ _ => (R.fieldB rfl fld59_2)) ?_
                refine WQ.val (fun w hw => by obtain ⟨_, hq, S⟩ := hw; exact (R.loadB (i := 1) (v := (int 2147483647)) S rfl rfl lay3 rfl)) ?_
                refine WQ.val (fun _ _ => (R.fieldB rfl fld59_3)) ?_
                refine WQ.val (fun w hw => by obtain ⟨_, hq, S⟩ := hw; exact (R.loadB (i := 1) (v := (int 0)) S rfl rfl lay3 rfl)) ?_
                obtain ⟨r198, hr198, hj183⟩ := bindE hj183
                refine WQ.call (v := (int r198)) rfl (fun w H' hq S => cachecontrol_number_ok S.holds g190.1 2147483647 0 hr198) ?_
                refine WQ.val (fun _ _ => (R.nilCheckB rfl)) ?_
                refine WQ.nil ?_
                intro w195 H196 hle197 S
                have R87 := Sl.mono R87 hle197
                have hA186 := At.mono hA186 hle197 (by simp)
                refine W.store (i := 3) [(boo (g50.2 || (decide (64 ≤ (r3.length : Int))))), (boo g54.2), (boo g58.2), (boo g62.2), (boo g66.2), (boo g70.2), (boo g74.2), (int m95), (int m124), (int m153), (int r198)] S rfl rfl rfl lay3 rfl rfl (Nat.le_of_ble_eq_true rfl) rfl ?_
                intro w203 S
                refine WL.nil ?_
                obtain rfl := Option.some.inj hj183
                exact ⟨H196, h147, h148, h149, h150, h151, rfl, R87, (S.drop _ (.cons _ (.cons _ (.cons_cons _ (.cons_cons _ (.cons_cons _ (.cons_cons _ .slnil)))))))⟩
              · refine WP.condF rfl hc194 ?_
                refine WP.skip ?_
                obtain rfl := Option.some.inj hj183
                exact ⟨H146, h147, h148, h149, h150, h151, rfl, R87, (S.drop _ (.cons _ (.cons _ (.cons_cons _ (.cons_cons _ (.cons_cons _ (.cons_cons _ .slnil)))))))⟩
            · rintro f w ⟨H175, h176, h177, h178, h179, h180, h181, R87, S⟩
              refine WP.region ?_
              refine WL.valw (v := (int 4)) (R.ofEq (R.add h181 rfl) rfl) ?_
              refine WL.valw (R.mv (v := (int 4)) rfl) ?_
              refine WL.nil ?_
              refine RD.succ ?_
              refine WP.seq ?_
              refine WP.region ?_
              refine WL.valw (v := (boo false)) (R.ofEq (R.lss rfl h180) rfl) ?_
              refine WL.nil ?_
              refine WP.seq ?_
              refine WP.condF (b := false) rfl rfl ?_
              refine WP.exit ?_
              refine WP.seq ?_
              refine WP.region ?_
              refine WL.valw (R.loadBN (i := 1) (vs := [(boo (g50.2 || (decide (64 ≤ (r3.length : Int))))), (boo g54.2), (boo g58.2), (boo g62.2), (boo g66.2), (boo g70.2), (boo g74.2), (int m95), (int m124), (int m153), (int m182)]) S h178 rfl lay32 rfl rfl) ?_
              refine W.store (i := 3) [(boo (g50.2 || (decide (64 ≤ (r3.length : Int))))), (boo g54.2), (boo g58.2), (boo g62.2), (boo g66.2), (boo g70.2), (boo g74.2), (int m95), (int m124), (int m153), (int m182)] S h176 rfl rfl lay32 rfl rfl (Nat.le_of_ble_eq_true rfl) rfl ?_
              intro w204 S
              refine WL.nil ?_
              obtain rfl := Option.some.inj h
              refine WP.ret (Out.one rfl S (Res.cellB (i := 3) (cs := [(boo (g50.2 || (decide (64 ≤ (r3.length : Int))))), (boo g54.2), (boo g58.2), (boo g62.2), (boo g66.2), (boo g70.2), (boo g74.2), (int m95), (int m124), (int m153), (int m182)]) S h176 rfl lay32 rfl rfl) ?_)
              exact rfl
set_option maxRecDepth 10000 in
set_option maxHeartbeats 4000000 in
theorem law22_awake_ok {w0 : World} {H0 : Hp} (hw : Holds w0 H0) {r : Bool} (h : law22_awake = some r) :
    Con Tryd.prog 21 [] w0 H0 (fun H' v => v = (boo r)) := by
  refine Con.mk (N := 22) Tryd.func21 rfl rfl (by kernel_rfl) rfl ?_
  have S := St.start hw
  refine WP.seq ?_
  refine WP.region ?_
  refine WL.valw (R.as (v := (boo false)) rfl) ?_
  refine WL.nil ?_
  refine WP.seq ?_
  refine WP.region ?_
  refine WL.valw (R.build [(0, (str [67, 97, 99, 104, 101, 45, 67, 111, 110, 116, 114, 111, 108])), (1, (str [109, 97, 120, 45, 97, 103, 101, 61, 54, 48, 44, 32, 109, 97, 120, 45, 97, 103, 101, 61, 53, 44, 32, 78, 111, 45, 83, 116, 111, 114, 101]))] [(str [67, 97, 99, 104, 101, 45, 67, 111, 110, 116, 114, 111, 108]), (str [109, 97, 120, 45, 97, 103, 101, 61, 54, 48, 44, 32, 109, 97, 120, 45, 97, 103, 101, 61, 53, 44, 32, 78, 111, 45, 83, 116, 111, 114, 101])] bp26 zer26 rfl rfl) ?_
  refine W.bslice (α := GField) [(agg [(str [67, 97, 99, 104, 101, 45, 67, 111, 110, 116, 114, 111, 108]), (str [109, 97, 120, 45, 97, 103, 101, 61, 54, 48, 44, 32, 109, 97, 120, 45, 97, 103, 101, 61, 53, 44, 32, 78, 111, 45, 83, 116, 111, 114, 101])])] ([(⟨[67, 97, 99, 104, 101, 45, 67, 111, 110, 116, 114, 111, 108], [109, 97, 120, 45, 97, 103, 101, 61, 54, 48, 44, 32, 109, 97, 120, 45, 97, 103, 101, 61, 53, 44, 32, 78, 111, 45, 83, 116, 111, 114, 101]⟩ : GField)] : List GField) S el27 rfl rfl rfl (by decide) (encS ⟨rfl, rfl⟩ enc0) ?_
  intro u1 w2 H3 hle4 R5 S
  obtain ⟨r6, hr6, h⟩ := bindE h
  refine W.call S rfl (cachecontrol_Response_ok S.holds ([(⟨[67, 97, 99, 104, 101, 45, 67, 111, 110, 116, 114, 111, 108], [109, 97, 120, 45, 97, 103, 101, 61, 54, 48, 44, 32, 109, 97, 120, 45, 97, 103, 101, 61, 53, 44, 32, 78, 111, 45, 83, 116, 111, 114, 101]⟩ : GField)] : List GField) R5 hr6) ?_
  rintro v7 w8 H9 hle10 S rfl
  have R5 := Sl.mono R5 hle10
  refine W.alloc [(boo false), (boo false), (boo false), (boo false), (boo false), (boo false), (boo false), (int 0), (int 0), (int 0), (int 0)] S zer32 ?_
  intro b11 w12 S
  refine W.store (i := 0) [(boo r6.fNoStore), (boo r6.fNoCache), (boo r6.fMustRevalidate), (boo r6.fProxyRevalidate), (boo r6.fPrivate), (boo r6.fPublic), (boo r6.fOnlyIfCached), (int r6.fMaxAge), (int r6.fSMaxAge), (int r6.fMinFresh), (int r6.fMaxStale)] S rfl rfl rfl lay32 rfl rfl (Nat.le_of_ble_eq_true rfl) rfl ?_
  intro w13 S
  refine WL.nil ?_
  refine WP.seq ?_
  refine WP.region ?_
  refine WL.valw (R.fieldB rfl fld32_7) ?_
  refine WL.valw (R.loadB (i := 0) (v := (int r6.fMaxAge)) S rfl rfl lay3 rfl) ?_
  refine WL.valw (R.eql rfl rfl) ?_
  refine WL.valw (R.mv (v := (boo (r6.fMaxAge == 60))) rfl) ?_
  refine WL.grp 3 [9, 10] 11 (boo ((r6.fMaxAge == 60) && r6.fNoStore)) ?_ ?_
  · rcases boolE (r6.fMaxAge == 60) with hb14 | hb14
    · refine WL.gyes rfl rfl hb14 ?_
      refine WL.valw (R.fieldB rfl fld32_0) ?_
      refine WL.gyes rfl rfl hb14 ?_
      refine WL.valw (R.loadB (i := 0) (v := (boo r6.fNoStore)) S rfl rfl lay4 rfl) ?_
      refine WL.valw (R.pickT rfl hb14 rfl) ?_
      exact WL.nil ⟨(andT hb14), (by repeat (first | refine agree_upd rfl ?_ | refine agree_upds' rfl ?_ | exact agree_refl)), rfl⟩
    · refine WL.gno rfl rfl hb14 ?_
      refine WL.gno rfl rfl hb14 ?_
      refine WL.valw (R.pickF rfl hb14 rfl) ?_
      exact WL.nil ⟨(andF hb14), (by repeat (first | refine agree_upd rfl ?_ | refine agree_upds' rfl ?_ | exact agree_refl)), rfl⟩
  · intro us
    refine WL.valw (R.mv (v := (boo ((r6.fMaxAge == 60) && r6.fNoStore))) rfl) ?_
    refine WL.grp 4 [13, 14, 15] 16 (boo (((r6.fMaxAge == 60) && r6.fNoStore) && (r6.fSMaxAge == (-1)))) ?_ ?_
    · rcases boolE ((r6.fMaxAge == 60) && r6.fNoStore) with hb16 | hb16
      · refine WL.gyes rfl rfl hb16 ?_
        refine WL.valw (R.fieldB rfl fld32_8) ?_
        refine WL.gyes rfl rfl hb16 ?_
        refine WL.valw (R.loadB (i := 0) (v := (int r6.fSMaxAge)) S rfl rfl lay3 rfl) ?_
        refine WL.gyes rfl rfl hb16 ?_
        refine WL.valw (R.eql rfl rfl) ?_
        refine WL.valw (R.pickT rfl hb16 rfl) ?_
        exact WL.nil ⟨(andT hb16), (by repeat (first | refine agree_upd rfl ?_ | refine agree_upds' rfl ?_ | exact agree_refl)), rfl⟩
      · refine WL.gno rfl rfl hb16 ?_
        refine WL.gno rfl rfl hb16 ?_
        refine WL.gno rfl rfl hb16 ?_
        refine WL.valw (R.pickF rfl hb16 rfl) ?_
        exact WL.nil ⟨(andF hb16), (by repeat (first | refine agree_upd rfl ?_ | refine agree_upds' rfl ?_ | exact agree_refl)), rfl⟩
    · intro us
      refine WL.valw (R.mv (v := (boo (((r6.fMaxAge == 60) && r6.fNoStore) && (r6.fSMaxAge == (-1))))) rfl) ?_
      refine WL.grp 4 [18, 19, 20] 21 (boo ((((r6.fMaxAge == 60) && r6.fNoStore) && (r6.fSMaxAge == (-1))) && (!r6.fPrivate))) ?_ ?_
      · rcases boolE (((r6.fMaxAge == 60) && r6.fNoStore) && (r6.fSMaxAge == (-1))) with hb18 | hb18
        · refine WL.gyes rfl rfl hb18 ?_
          refine WL.valw (R.fieldB rfl fld32_4) ?_
          refine WL.gyes rfl rfl hb18 ?_
          refine WL.valw (R.loadB (i := 0) (v := (boo r6.fPrivate)) S rfl rfl lay4 rfl) ?_
          refine WL.gyes rfl rfl hb18 ?_
          refine WL.valw (R.not rfl) ?_
          refine WL.valw (R.pickT rfl hb18 rfl) ?_
          exact WL.nil ⟨(andT hb18), (by repeat (first | refine agree_upd rfl ?_ | refine agree_upds' rfl ?_ | exact agree_refl)), rfl⟩
        · refine WL.gno rfl rfl hb18 ?_
          refine WL.gno rfl rfl hb18 ?_
          refine WL.gno rfl rfl hb18 ?_
          refine WL.valw (R.pickF rfl hb18 rfl) ?_
          exact WL.nil ⟨(andF hb18), (by repeat (first | refine agree_upd rfl ?_ | refine agree_upds' rfl ?_ | exact agree_refl)), rfl⟩
      · intro us
        refine WL.valw (R.as (v := (boo ((((r6.fMaxAge == 60) && r6.fNoStore) && (r6.fSMaxAge == (-1))) && (!r6.fPrivate)))) rfl) ?_
        refine WL.nil ?_
        obtain rfl := Option.some.inj h
        refine WP.ret (Out.one rfl S rfl ?_)
        exact rfl
set_option maxRecDepth 10000 in
set_option maxHeartbeats 4000000 in
theorem ref01_Get_ok {w0 : World} {H0 : Hp} (hw : Holds w0 H0) (p_l : (List GField)) (p_name : Str) {vp_l : Value} (Rp_l : Sl (α := GField) H0 vp_l p_l) {r : (List Str)} (h : ref01_Get p_l p_name = some r) :
    Con Tryd.prog 51 [vp_l, (str p_name)] w0 H0 (fun H' v => Sl (α := Str) H' v r) := by
  refine Con.mk (N := 29) Tryd.func51 rfl rfl (by kernel_rfl) rfl ?_
  have S := St.start hw
  refine WP.seq ?_
  refine WP.region ?_
  refine WL.valw (R.as (v := (.slice none 0 0)) rfl) ?_
  refine WL.nil ?_
  refine WP.seq ?_
  refine WP.region ?_
  refine WL.valw (R.as (v := (.slice none 0 0)) rfl) ?_
  refine WL.nil ?_
  refine WP.seq ?_
  refine WP.seq ?_
  refine WP.region ?_
  refine WL.valw (R.as (v := (int 0)) rfl) ?_
  refine WL.nil ?_
  have S := S.addNil 9 1
  obtain ⟨out_11, hr19, h⟩ := bindE h
  refine WP.cut (fun f w => ∃ (H10 : Hp) (v12 : Value), f 5 = v12 ∧ Sl (α := Str) H10 v12 out_11 ∧ St w0 H0 w H10 [.row v12 9 1 out_11.length]) ?_ ?_
  · refine WP.block ?_
    refine WP.loopM (ref01_Get_L0 p_l p_name) (fun s f w => match s with | (out_4, i_8) => ∃ (H1 : Hp) (v5 : Value), f 0 = vp_l ∧ f 1 = (str p_name) ∧ f 5 = v5 ∧ f 6 = (int i_8) ∧ Sl (α := GField) H1 vp_l p_l ∧ Sl (α := Str) H1 v5 out_4 ∧ St w0 H0 w H1 [.row v5 9 1 out_4.length]) (([] : List Str), 0) out_11 hr19 ?_ ?_
    · exact ⟨H0, .slice none 0 0, rfl, rfl, rfl, rfl, Rp_l, Sl.nil, S⟩
    · intro s f w hI y15 hy16 hy17
      obtain ⟨out_4, i_8⟩ := s
      obtain ⟨H1, v5, h2, h3, h7, h9, Rp_l, R6, S⟩ := hI
      refine WP.seq ?_
      refine WP.seq ?_
      refine WP.region ?_
      refine WL.valw (R.mv (v := (int i_8)) h9) ?_
      refine WL.valw (R.mv (v := vp_l) h2) ?_
      refine WL.valw (R.lenL (α := GField) (xs := p_l) (H := H1) Rp_l rfl Tryd.underlying27) ?_
      refine WL.valw (R.lss rfl rfl) ?_
      refine WL.nil ?_
      rcases condE hy16 with ⟨hc20, hy16⟩ | ⟨hc20, hy16⟩
      · refine WP.condT rfl hc20 ?_
        refine WP.skip ?_
        refine WP.seq ?_
        refine WP.block ?_
        refine WP.seq ?_
        refine WP.region ?_
        refine WL.valw (R.mv (v := vp_l) h2) ?_
        refine WL.valw (R.mv (v := (int i_8)) h9) ?_
        obtain ⟨x21, hx21, hy16⟩ := bindE hy16
        refine W.idx (α := GField) Rp_l rfl rfl el27 hx21 ?_
        rintro a22 _ hA23 rfl
        refine WL.valw (R.field rfl fld26_0) ?_
        have hA24 := At.add hA23 0 (by simp)
        refine WL.valw (R.loadH (v := (str x21.fName)) S rfl hA24 lay9 rfl) ?_
        refine WL.valw (R.mv (v := (str p_name)) h3) ?_
        obtain ⟨r25, hr25, hy16⟩ := bindE hy16
        refine W.call S rfl (ref01_Fold_ok S.holds x21.fName p_name hr25) ?_
        rintro v26 w27 H28 hle29 S rfl
        have Rp_l := Sl.mono Rp_l hle29
        have R6 := Sl.mono R6 hle29
        have hA23 := At.mono hA23 hle29 (by simp)
        have hA24 := At.mono hA24 hle29 (by simp)
        refine WL.nil ?_
        rcases condE hy16 with ⟨hc30, hy16⟩ | ⟨hc30, hy16⟩
        · refine WP.condT rfl hc30 ?_
          refine WP.region ?_
          refine WL.valw (R.mv (v := v5) h7) ?_
          refine WL.valw (R.mv (v := vp_l) h2) ?_
          refine WL.valw (R.mv (v := (int i_8)) h9) ?_
          obtain ⟨x31, hx31, hy16⟩ := bindE hy16
          refine W.idx (α := GField) Rp_l rfl rfl el27 hx31 ?_
          rintro a32 _ hA33 rfl
          refine WL.valw (R.field rfl fld26_1) ?_
          have hA34 := At.add hA33 1 (by simp)
          refine WL.valw (R.loadH (v := (str x31.fValue)) S rfl hA34 lay9 rfl) ?_
          refine W.bslice (α := Str) [(str x31.fValue)] ([x31.fValue] : List Str) S el23 rfl rfl rfl (by decide) (encS ⟨rfl, rfl⟩ enc0) ?_
          intro u35 w36 H37 hle38 R39 S
          have Rp_l := Sl.mono Rp_l hle38
          have R6 := Sl.mono R6 hle38
          have hA23 := At.mono hA23 hle38 (by simp)
          have hA24 := At.mono hA24 hle38 (by simp)
          have hA33 := At.mono hA33 hle38 (by simp)
          have hA34 := At.mono hA34 hle38 (by simp)
          obtain ⟨l40, hl40, hy16⟩ := bindE hy16
          refine W.app (α := Str) (i := 1) S el23 rfl rfl rfl R6 R39 hl40 ?_
          intro v41 w42 H43 hle44 R45 S
          have Rp_l := Sl.mono Rp_l hle44
          have R6 := Sl.mono R6 hle44
          have hA23 := At.mono hA23 hle44 (by simp)
          have hA24 := At.mono hA24 hle44 (by simp)
          have hA33 := At.mono hA33 hle44 (by simp)
          have hA34 := At.mono hA34 hle44 (by simp)
          have R39 := Sl.mono R39 hle44
          refine WL.valw (R.as (v := v41) rfl) ?_
          refine WL.nil ?_
          refine WP.region ?_
          refine WL.valw (R.mv (v := (int i_8)) h9) ?_
          refine WL.valw (R.add rfl rfl) ?_
          refine WL.valw (R.as (v := (int (wr (i_8 + 1)))) rfl) ?_
          refine WL.nil ?_
          obtain rfl := Option.some.inj hy16
          exact ⟨rfl, ⟨H43, v41, h2, h3, rfl, rfl, Rp_l, R45, (S.drop _ (.cons _ (.cons_cons _ .slnil)))⟩⟩
        · refine WP.condF rfl hc30 ?_
          refine WP.skip ?_
          refine WP.region ?_
          refine WL.valw (R.mv (v := (int i_8)) h9) ?_
          refine WL.valw (R.add rfl rfl) ?_
          refine WL.valw (R.as (v := (int (wr (i_8 + 1)))) rfl) ?_
          refine WL.nil ?_
          obtain rfl := Option.some.inj hy16
          exact ⟨rfl, ⟨H28, v5, h2, h3, h7, rfl, Rp_l, R6, S⟩⟩
      · refine WP.condF rfl hc20 ?_
        refine WP.exit ?_
        obtain rfl := Option.some.inj hy16
        obtain rfl := hy17
        exact ⟨H1, v5, h7, R6, S⟩
  · rintro f w ⟨H10, v12, h14, R13, S⟩
    refine WP.seq ?_
    refine WP.region ?_
    refine WL.valw (R.mv (v := v12) h14) ?_
    refine WL.valw (R.as (v := v12) rfl) ?_
    refine WL.nil ?_
    obtain rfl := Option.some.inj h
    refine WP.ret (Out.one rfl S rfl ?_)
    exact R13
end Go.Proofs
