/- A part of the proof of laws of the seat: written by program over the translation. -/
import Derived.Test.YtogfdiigokidaaaDoorGenG6
namespace Go.Proofs
open Go.Eng Go.Eng.Pure
set_option linter.unusedVariables false
set_option maxRecDepth 10000 in
set_option maxHeartbeats 4000000 in
theorem law26_EntrySizes_ok {w0 : World} {H0 : Hp} (hw : Holds w0 H0) (hG : Tryd.Gl w0) (p_e : GEntry) (p_f : GEntry) (p_now : Int) {vp_e0 : Value} {vp_e1 : Value} {vp_e2 : Value} {vp_e4 : Value} {vp_f0 : Value} {vp_f1 : Value} {vp_f2 : Value} {vp_f4 : Value} (Rp_e0 : Sl (α := (List Str)) H0 vp_e0 p_e.fKeys) (Rp_e1 : Sl (α := Str) H0 vp_e1 p_e.fVary) (Rp_e2 : Sl (α := Str) H0 vp_e2 p_e.fSnapshot) (Rp_e4 : Sl (α := GField) H0 vp_e4 p_e.fFields) (Rp_f0 : Sl (α := (List Str)) H0 vp_f0 p_f.fKeys) (Rp_f1 : Sl (α := Str) H0 vp_f1 p_f.fVary) (Rp_f2 : Sl (α := Str) H0 vp_f2 p_f.fSnapshot) (Rp_f4 : Sl (α := GField) H0 vp_f4 p_f.fFields) {r : Bool} (h : law26_EntrySizes p_e p_f p_now = some r) :
    Con Tryd.prog 3 [(agg [vp_e0, vp_e1, vp_e2, (str p_e.fReason), vp_e4, (str p_e.fBody), (int p_e.fRequested), (int p_e.fReceived)]), (agg [vp_f0, vp_f1, vp_f2, (str p_f.fReason), vp_f4, (str p_f.fBody), (int p_f.fRequested), (int p_f.fReceived)]), (int p_now)] w0 H0 (fun H' v => v = (boo r)) := by
  refine Con.mk (N := 47) Tryd.func3 rfl rfl (by kernel_rfl) rfl ?_
  have S := St.start hw
  refine WP.seq ?_
  refine WP.region ?_
  refine W.box [vp_e0, vp_e1, vp_e2, (str p_e.fReason), vp_e4, (str p_e.fBody), (int p_e.fRequested), (int p_e.fReceived)] S rfl rfl ?_
  intro b1 w2 S
  refine W.box [vp_f0, vp_f1, vp_f2, (str p_f.fReason), vp_f4, (str p_f.fBody), (int p_f.fRequested), (int p_f.fReceived)] S rfl rfl ?_
  intro b3 w4 S
  refine WL.valw (R.as (v := (boo false)) rfl) ?_
  refine WL.nil ?_
  refine WP.seq ?_
  refine WP.seq ?_
  refine WP.region ?_
  refine WL.valw (R.loadBN (i := 1) (vs := [vp_e0, vp_e1, vp_e2, (str p_e.fReason), vp_e4, (str p_e.fBody), (int p_e.fRequested), (int p_e.fReceived)]) S rfl rfl lay26 rfl rfl) ?_
  obtain ⟨r5, hr5, h⟩ := bindE h
  refine W.call S rfl (keep_Entry_ok S.holds (hG.post S.post) p_e Rp_e0 Rp_e1 Rp_e2 Rp_e4 hr5) ?_
  rintro v6 w7 H8 hle9 S rfl
  have Rp_e0 := Sl.mono Rp_e0 hle9
  have Rp_e1 := Sl.mono Rp_e1 hle9
  have Rp_e2 := Sl.mono Rp_e2 hle9
  have Rp_e4 := Sl.mono Rp_e4 hle9
  have Rp_f0 := Sl.mono Rp_f0 hle9
  have Rp_f1 := Sl.mono Rp_f1 hle9
  have Rp_f2 := Sl.mono Rp_f2 hle9
  have Rp_f4 := Sl.mono Rp_f4 hle9
  refine WL.valw (R.not rfl) ?_
  refine WL.valw (R.mv (v := (boo (!r5))) rfl) ?_
  obtain ⟨b17, hg11, h⟩ := bindE h
  refine WL.grpw 4 [11, 12, 13] 14 (boo b17) (fun w => ∃ H' : Hp, H8.le H' ∧ St w0 H0 w H' [.box b3 26 [vp_f0, vp_f1, vp_f2, (str p_f.fReason), vp_f4, (str p_f.fBody), (int p_f.fRequested), (int p_f.fReceived)], .box b1 26 [vp_e0, vp_e1, vp_e2, (str p_e.fReason), vp_e4, (str p_e.fBody), (int p_e.fRequested), (int p_e.fReceived)]]) ?_ ?_
  · rcases boolE (!r5) with hb10 | hb10
    · replace hg11 := condT hg11 hb10
      refine WL.gno rfl rfl hb10 ?_
      refine WL.gno rfl rfl hb10 ?_
      refine WL.gno rfl rfl hb10 ?_
      refine WL.valw (R.pickT rfl hb10 rfl) ?_
      exact WL.nil ⟨(congrArg boo (Option.some.inj hg11)), (by repeat (first | refine agree_upd rfl ?_ | refine agree_upds' rfl ?_ | exact agree_refl)), ⟨H8, (Hp.le.refl _), S⟩⟩
    · replace hg11 := condF hg11 hb10
      refine WL.gyes rfl rfl hb10 ?_
      refine WL.valw (R.loadBN (i := 0) (vs := [vp_f0, vp_f1, vp_f2, (str p_f.fReason), vp_f4, (str p_f.fBody), (int p_f.fRequested), (int p_f.fReceived)]) S rfl rfl lay26 rfl rfl) ?_
      refine WL.gyes rfl rfl hb10 ?_
      obtain ⟨r12, hr12, hg11⟩ := bindE hg11
      refine W.call S rfl (keep_Entry_ok S.holds (hG.post S.post) p_f Rp_f0 Rp_f1 Rp_f2 Rp_f4 hr12) ?_
      rintro v13 w14 H15 hle16 S rfl
      have Rp_e0 := Sl.mono Rp_e0 hle16
      have Rp_e1 := Sl.mono Rp_e1 hle16
      have Rp_e2 := Sl.mono Rp_e2 hle16
      have Rp_e4 := Sl.mono Rp_e4 hle16
      have Rp_f0 := Sl.mono Rp_f0 hle16
      have Rp_f1 := Sl.mono Rp_f1 hle16
      have Rp_f2 := Sl.mono Rp_f2 hle16
      have Rp_f4 := Sl.mono Rp_f4 hle16
      refine WL.gyes rfl rfl hb10 ?_
      refine WL.valw (R.not rfl) ?_
      refine WL.valw (R.pickF rfl hb10 rfl) ?_
      exact WL.nil ⟨(congrArg boo (Option.some.inj hg11)), (by repeat (first | refine agree_upd rfl ?_ | refine agree_upds' rfl ?_ | exact agree_refl)), ⟨H15, hle16, S⟩⟩
  · intro us w19 ⟨H18, hle20, S⟩
    have Rp_e0 := Sl.mono Rp_e0 hle20
    have Rp_e1 := Sl.mono Rp_e1 hle20
    have Rp_e2 := Sl.mono Rp_e2 hle20
    have Rp_e4 := Sl.mono Rp_e4 hle20
    have Rp_f0 := Sl.mono Rp_f0 hle20
    have Rp_f1 := Sl.mono Rp_f1 hle20
    have Rp_f2 := Sl.mono Rp_f2 hle20
    have Rp_f4 := Sl.mono Rp_f4 hle20
    refine WL.nil ?_
    rcases condE h with ⟨hc21, h⟩ | ⟨hc21, h⟩
    · refine WP.condT rfl hc21 ?_
      refine WP.seq ?_
      refine WP.region ?_
      refine WL.valw (R.as (v := (boo true)) rfl) ?_
      refine WL.nil ?_
      obtain rfl := Option.some.inj h
      refine WP.ret (Out.one rfl S rfl ?_)
      exact rfl
    · refine WP.condF rfl hc21 ?_
      refine WP.skip ?_
      refine WP.seq ?_
      obtain ⟨r22, hr22, h⟩ := bindE h
      obtain ⟨r27, hr27, h⟩ := bindE h
      obtain ⟨b44, hg33, h⟩ := bindE h
      obtain ⟨b70, hg59, h⟩ := bindE h
      obtain ⟨b104, hg85, h⟩ := bindE h
      obtain ⟨b133, hg127, h⟩ := bindE h
      refine WP.cut (fun f w => ∃ (H142 : Hp), f 6 = (boo b133) ∧ St w0 H0 w H142 []) ?_ ?_
      · refine WP.drawC (Cl w0 H0 H18 [.box b3 26 [vp_f0, vp_f1, vp_f2, (str p_f.fReason), vp_f4, (str p_f.fBody), (int p_f.fRequested), (int p_f.fReceived)], .box b1 26 [vp_e0, vp_e1, vp_e2, (str p_e.fReason), vp_e4, (str p_e.fBody), (int p_e.fRequested), (int p_e.fReceived)]]) (by kernel_rfl) 33 rfl #[false, false, false, false, false, false, false, false, false, false, false, false, false, false, false, false, false, false, false, false, false, false, false, false, false, false, false, false, false, false, false, false, false] rfl ?_
        have S := S.drew
        rcases boolE (r22 == r27) with hb144 | hb144
        · replace hg33 := condT hg33 hb144
          obtain ⟨r45, hr45, hg33⟩ := bindE hg33
          obtain ⟨r50, hr50, hg33⟩ := bindE hg33
          rcases boolE b44 with hb145 | hb145
          · replace hg59 := condT hg59 hb145
            obtain ⟨r71, hr71, hg59⟩ := bindE hg59
            obtain ⟨r76, hr76, hg59⟩ := bindE hg59
            rcases boolE b70 with hb146 | hb146
            · replace hg85 := condT hg85 hb146
              obtain ⟨r105, hr105, hg85⟩ := bindE hg85
              obtain ⟨r118, hr118, hg85⟩ := bindE hg85
              rcases boolE b104 with hb147 | hb147
              · replace hg127 := condT hg127 hb147
                obtain ⟨r134, hr134, hg127⟩ := bindE hg127
                refine WC.take (i := 0) #[true, false, false, false, false, false, false, false, false, false, false, false, false, false, false, false, false, false, false, false, false, false, false, false, false, false, false, false, false, false, false, false, false] rfl (by kernel_rfl) (by kernel_rfl) (by kernel_rfl) rfl (fun w hw => by obtain ⟨_, hq, S⟩ := hw; exact (R.loadBN (i := 1) (vs := [vp_e0, vp_e1, vp_e2, (str p_e.fReason), vp_e4, (str p_e.fBody), (int p_e.fRequested), (int p_e.fReceived)]) S rfl rfl lay26 rfl rfl)) ?_
                refine WC.take (i := 2) #[true, false, true, false, false, false, false, false, false, false, false, false, false, false, false, false, false, false, false, false, false, false, false, false, false, false, false, false, false, false, false, false, false] rfl (by kernel_rfl) (by kernel_rfl) (by kernel_rfl) rfl (fun w hw => by obtain ⟨_, hq, S⟩ := hw; exact (R.loadBN (i := 1) (vs := [vp_e0, vp_e1, vp_e2, (str p_e.fReason), vp_e4, (str p_e.fBody), (int p_e.fRequested), (int p_e.fReceived)]) S rfl rfl lay26 rfl rfl)) ?_
                refine WC.next (rs := [1]) ⟨H18, (Hp.le.refl _), S.drop _ (.cons_cons _ (.cons_cons _ .slnil))⟩ (by kernel_rfl) (List.cons_ne_nil _ _) (all1 ?_)
                refine Nxt.mk (o := _) #[true, true, true, false, false, false, false, false, false, false, false, false, false, false, false, false, false, false, false, false, false, false, false, false, false, false, false, false, false, false, false, false, false] rfl rfl ?_
                refine W.call S rfl (entry_Size_ok S.holds (hG.post S.post) p_e Rp_e0 Rp_e1 Rp_e2 Rp_e4 hr22) ?_
                rintro v148 w149 H150 hle151 S rfl
                have Rp_e0 := Sl.mono Rp_e0 hle151
                have Rp_e1 := Sl.mono Rp_e1 hle151
                have Rp_e2 := Sl.mono Rp_e2 hle151
                have Rp_e4 := Sl.mono Rp_e4 hle151
                have Rp_f0 := Sl.mono Rp_f0 hle151
                have Rp_f1 := Sl.mono Rp_f1 hle151
                have Rp_f2 := Sl.mono Rp_f2 hle151
                have Rp_f4 := Sl.mono Rp_f4 hle151
                refine WL.nil ?_
                refine WC.next (rs := [3]) ⟨H150, hle151, S.drop _ (.cons_cons _ (.cons_cons _ .slnil))⟩ (by kernel_rfl) (List.cons_ne_nil _ _) (all1 ?_)
                refine Nxt.mk (o := _) #[true, true, true, true, false, false, false, false, false, false, false, false, false, false, false, false, false, false, false, false, false, false, false, false, false, false, false, false, false, false, false, false, false] rfl rfl ?_
                refine W.call S rfl (ref26_Size_ok S.holds (hG.post S.post) p_e Rp_e0 Rp_e1 Rp_e2 Rp_e4 hr27) ?_
                rintro v152 w153 H154 hle155 S rfl
                have Rp_e0 := Sl.mono Rp_e0 hle155
                have Rp_e1 := Sl.mono Rp_e1 hle155
                have Rp_e2 := Sl.mono Rp_e2 hle155
                have Rp_e4 := Sl.mono Rp_e4 hle155
                have Rp_f0 := Sl.mono Rp_f0 hle155
                have Rp_f1 := Sl.mono Rp_f1 hle155
                have Rp_f2 := Sl.mono Rp_f2 hle155
                have Rp_f4 := Sl.mono Rp_f4 hle155
                refine WL.nil ?_
                refine WC.take (i := 4) #[true, true, true, true, true, false, false, false, false, false, false, false, false, false, false, false, false, false, false, false, false, false, false, false, false, false, false, false, false, false, false, false, false] rfl (by kernel_rfl) (by kernel_rfl) (by kernel_rfl) rfl (fun _ _ => (R.eql rfl rfl)) ?_
                refine WC.take (i := 5) #[true, true, true, true, true, true, false, false, false, false, false, false, false, false, false, false, false, false, false, false, false, false, false, false, false, false, false, false, false, false, false, false, false] rfl (by kernel_rfl) (by kernel_rfl) (by kernel_rfl) rfl (fun _ _ => (R.mv (v := (boo (r22 == r27))) rfl)) ?_
                refine WC.takeY (i := 6) #[true, true, true, true, true, true, true, false, false, false, false, false, false, false, false, false, false, false, false, false, false, false, false, false, false, false, false, false, false, false, false, false, false] rfl rfl rfl hb144 (by kernel_rfl) (by kernel_rfl) (by kernel_rfl) rfl (fun w hw => by obtain ⟨_, hq, S⟩ := hw; exact (R.loadBN (i := 1) (vs := [vp_e0, vp_e1, vp_e2, (str p_e.fReason), vp_e4, (str p_e.fBody), (int p_e.fRequested), (int p_e.fReceived)]) S rfl rfl lay26 rfl rfl)) ?_
                refine WC.takeY (i := 7) #[true, true, true, true, true, true, true, true, false, false, false, false, false, false, false, false, false, false, false, false, false, false, false, false, false, false, false, false, false, false, false, false, false] rfl rfl rfl hb144 (by kernel_rfl) (by kernel_rfl) (by kernel_rfl) rfl (fun _ _ => (R.mv (v := (int p_now)) rfl)) ?_
                refine WC.takeY (i := 9) #[true, true, true, true, true, true, true, true, false, true, false, false, false, false, false, false, false, false, false, false, false, false, false, false, false, false, false, false, false, false, false, false, false] rfl rfl rfl hb144 (by kernel_rfl) (by kernel_rfl) (by kernel_rfl) rfl (fun w hw => by obtain ⟨_, hq, S⟩ := hw; exact (R.loadBN (i := 1) (vs := [vp_e0, vp_e1, vp_e2, (str p_e.fReason), vp_e4, (str p_e.fBody), (int p_e.fRequested), (int p_e.fReceived)]) S rfl rfl lay26 rfl rfl)) ?_
                refine WC.takeY (i := 10) #[true, true, true, true, true, true, true, true, false, true, true, false, false, false, false, false, false, false, false, false, false, false, false, false, false, false, false, false, false, false, false, false, false] rfl rfl rfl hb144 (by kernel_rfl) (by kernel_rfl) (by kernel_rfl) rfl (fun _ _ => (R.mv (v := (int p_now)) rfl)) ?_
                refine WC.next (rs := [8]) ⟨H154, (hle151.trans hle155), S.drop _ (.cons_cons _ (.cons_cons _ .slnil))⟩ (by kernel_rfl) (List.cons_ne_nil _ _) (all1 ?_)
                refine Nxt.mk (o := _) #[true, true, true, true, true, true, true, true, true, true, true, false, false, false, false, false, false, false, false, false, false, false, false, false, false, false, false, false, false, false, false, false, false] rfl rfl ?_
                refine WL.gyes rfl rfl hb144 ?_
                refine W.call S rfl (entry_Age_ok S.holds (hG.post S.post) p_e p_now Rp_e0 Rp_e1 Rp_e2 Rp_e4 hr45) ?_
                rintro v156 w157 H158 hle159 S rfl
                have Rp_e0 := Sl.mono Rp_e0 hle159
                have Rp_e1 := Sl.mono Rp_e1 hle159
                have Rp_e2 := Sl.mono Rp_e2 hle159
                have Rp_e4 := Sl.mono Rp_e4 hle159
                have Rp_f0 := Sl.mono Rp_f0 hle159
                have Rp_f1 := Sl.mono Rp_f1 hle159
                have Rp_f2 := Sl.mono Rp_f2 hle159
                have Rp_f4 := Sl.mono Rp_f4 hle159
                refine WL.nil ?_
                refine WC.next (rs := [11]) ⟨H158, ((hle151.trans hle155).trans hle159), S.drop _ (.cons_cons _ (.cons_cons _ .slnil))⟩ (by kernel_rfl) (List.cons_ne_nil _ _) (all1 ?_)
                refine Nxt.mk (o := _) #[true, true, true, true, true, true, true, true, true, true, true, true, false, false, false, false, false, false, false, false, false, false, false, false, false, false, false, false, false, false, false, false, false] rfl rfl ?_
                refine WL.gyes rfl rfl hb144 ?_
                refine W.call S rfl (ref26_Age_ok S.holds (hG.post S.post) p_e p_now Rp_e0 Rp_e1 Rp_e2 Rp_e4 hr50) ?_
                rintro v160 w161 H162 hle163 S rfl
                have Rp_e0 := Sl.mono Rp_e0 hle163
                have Rp_e1 := Sl.mono Rp_e1 hle163
                have Rp_e2 := Sl.mono Rp_e2 hle163
                have Rp_e4 := Sl.mono Rp_e4 hle163
                have Rp_f0 := Sl.mono Rp_f0 hle163
                have Rp_f1 := Sl.mono Rp_f1 hle163
                have Rp_f2 := Sl.mono Rp_f2 hle163
                have Rp_f4 := Sl.mono Rp_f4 hle163
                refine WL.nil ?_
                refine WC.takeY (i := 12) #[true, true, true, true, true, true, true, true, true, true, true, true, true, false, false, false, false, false, false, false, false, false, false, false, false, false, false, false, false, false, false, false, false] rfl rfl rfl hb144 (by kernel_rfl) (by kernel_rfl) (by kernel_rfl) rfl (fun _ _ => (R.eql rfl rfl)) ?_
                refine WC.take (i := 13) (v := (boo b44)) #[true, true, true, true, true, true, true, true, true, true, true, true, true, true, false, false, false, false, false, false, false, false, false, false, false, false, false, false, false, false, false, false, false] rfl (by kernel_rfl) (by kernel_rfl) (by kernel_rfl) rfl (fun _ _ => (R.ofEq (R.pickT rfl hb144 rfl) (congrArg boo (Option.some.inj hg33)))) ?_
                refine WC.take (i := 14) #[true, true, true, true, true, true, true, true, true, true, true, true, true, true, true, false, false, false, false, false, false, false, false, false, false, false, false, false, false, false, false, false, false] rfl (by kernel_rfl) (by kernel_rfl) (by kernel_rfl) rfl (fun _ _ => (R.mv (v := (boo b44)) rfl)) ?_
                refine WC.takeY (i := 15) #[true, true, true, true, true, true, true, true, true, true, true, true, true, true, true, true, false, false, false, false, false, false, false, false, false, false, false, false, false, false, false, false, false] rfl rfl rfl hb145 (by kernel_rfl) (by kernel_rfl) (by kernel_rfl) rfl (fun w hw => by obtain ⟨_, hq, S⟩ := hw; exact (R.loadBN (i := 1) (vs := [vp_e0, vp_e1, vp_e2, (str p_e.fReason), vp_e4, (str p_e.fBody), (int p_e.fRequested), (int p_e.fReceived)]) S rfl rfl lay26 rfl rfl)) ?_
                refine WC.takeY (i := 16) #[true, true, true, true, true, true, true, true, true, true, true, true, true, true, true, true, true, false, false, false, false, false, false, false, false, false, false, false, false, false, false, false, false] rfl rfl rfl hb145 (by kernel_rfl) (by kernel_rfl) (by kernel_rfl) rfl (fun w hw => by obtain ⟨_, hq, S⟩ := hw; exact (R.loadBN (i := 0) (vs := [vp_f0, vp_f1, vp_f2, (str p_f.fReason), vp_f4, (str p_f.fBody), (int p_f.fRequested), (int p_f.fReceived)]) S rfl rfl lay26 rfl rfl)) ?_
                refine WC.takeY (i := 18) #[true, true, true, true, true, true, true, true, true, true, true, true, true, true, true, true, true, false, true, false, false, false, false, false, false, false, false, false, false, false, false, false, false] rfl rfl rfl hb145 (by kernel_rfl) (by kernel_rfl) (by kernel_rfl) rfl (fun w hw => by obtain ⟨_, hq, S⟩ := hw; exact (R.loadBN (i := 1) (vs := [vp_e0, vp_e1, vp_e2, (str p_e.fReason), vp_e4, (str p_e.fBody), (int p_e.fRequested), (int p_e.fReceived)]) S rfl rfl lay26 rfl rfl)) ?_
                refine WC.takeY (i := 19) #[true, true, true, true, true, true, true, true, true, true, true, true, true, true, true, true, true, false, true, true, false, false, false, false, false, false, false, false, false, false, false, false, false] rfl rfl rfl hb145 (by kernel_rfl) (by kernel_rfl) (by kernel_rfl) rfl (fun w hw => by obtain ⟨_, hq, S⟩ := hw; exact (R.loadBN (i := 0) (vs := [vp_f0, vp_f1, vp_f2, (str p_f.fReason), vp_f4, (str p_f.fBody), (int p_f.fRequested), (int p_f.fReceived)]) S rfl rfl lay26 rfl rfl)) ?_
                refine WC.next (rs := [17]) ⟨H162, (((hle151.trans hle155).trans hle159).trans hle163), S.drop _ (.cons_cons _ (.cons_cons _ .slnil))⟩ (by kernel_rfl) (List.cons_ne_nil _ _) (all1 ?_)
                refine Nxt.mk (o := _) #[true, true, true, true, true, true, true, true, true, true, true, true, true, true, true, true, true, true, true, true, false, false, false, false, false, false, false, false, false, false, false, false, false] rfl rfl ?_
                refine WL.gyes rfl rfl hb145 ?_
                refine W.call S rfl (entry_Equal_ok S.holds (hG.post S.post) p_e p_f Rp_e0 Rp_e1 Rp_e2 Rp_e4 Rp_f0 Rp_f1 Rp_f2 Rp_f4 hr71) ?_
                rintro v164 w165 H166 hle167 S rfl
                have Rp_e0 := Sl.mono Rp_e0 hle167
                have Rp_e1 := Sl.mono Rp_e1 hle167
                have Rp_e2 := Sl.mono Rp_e2 hle167
                have Rp_e4 := Sl.mono Rp_e4 hle167
                have Rp_f0 := Sl.mono Rp_f0 hle167
                have Rp_f1 := Sl.mono Rp_f1 hle167
                have Rp_f2 := Sl.mono Rp_f2 hle167
                have Rp_f4 := Sl.mono Rp_f4 hle167
                refine WL.nil ?_
                refine WC.next (rs := [20]) ⟨H166, ((((hle151.trans hle155).trans hle159).trans hle163).trans hle167), S.drop _ (.cons_cons _ (.cons_cons _ .slnil))⟩ (by kernel_rfl) (List.cons_ne_nil _ _) (all1 ?_)
                refine Nxt.mk (o := _) #[true, true, true, true, true, true, true, true, true, true, true, true, true, true, true, true, true, true, true, true, true, false, false, false, false, false, false, false, false, false, false, false, false] rfl rfl ?_
                refine WL.gyes rfl rfl hb145 ?_
                refine W.call S rfl (ref26_Equal_ok S.holds (hG.post S.post) p_e p_f Rp_e0 Rp_e1 Rp_e2 Rp_e4 Rp_f0 Rp_f1 Rp_f2 Rp_f4 hr76) ?_
                rintro v168 w169 H170 hle171 S rfl
                have Rp_e0 := Sl.mono Rp_e0 hle171
                have Rp_e1 := Sl.mono Rp_e1 hle171
                have Rp_e2 := Sl.mono Rp_e2 hle171
                have Rp_e4 := Sl.mono Rp_e4 hle171
                have Rp_f0 := Sl.mono Rp_f0 hle171
                have Rp_f1 := Sl.mono Rp_f1 hle171
                have Rp_f2 := Sl.mono Rp_f2 hle171
                have Rp_f4 := Sl.mono Rp_f4 hle171
                refine WL.nil ?_
                refine WC.takeY (i := 21) #[true, true, true, true, true, true, true, true, true, true, true, true, true, true, true, true, true, true, true, true, true, true, false, false, false, false, false, false, false, false, false, false, false] rfl rfl rfl hb145 (by kernel_rfl) (by kernel_rfl) (by kernel_rfl) rfl (fun _ _ => (R.eqlB rfl rfl Tryd.underlying4)) ?_
                refine WC.take (i := 22) (v := (boo b70)) #[true, true, true, true, true, true, true, true, true, true, true, true, true, true, true, true, true, true, true, true, true, true, true, false, false, false, false, false, false, false, false, false, false] rfl (by kernel_rfl) (by kernel_rfl) (by kernel_rfl) rfl (fun _ _ => (R.ofEq (R.pickT rfl hb145 rfl) (congrArg boo (Option.some.inj hg59)))) ?_
                refine WC.take (i := 23) #[true, true, true, true, true, true, true, true, true, true, true, true, true, true, true, true, true, true, true, true, true, true, true, true, false, false, false, false, false, false, false, false, false] rfl (by kernel_rfl) (by kernel_rfl) (by kernel_rfl) rfl (fun _ _ => (R.mv (v := (boo b70)) rfl)) ?_
                refine WC.takeY (i := 24) #[true, true, true, true, true, true, true, true, true, true, true, true, true, true, true, true, true, true, true, true, true, true, true, true, true, false, false, false, false, false, false, false, false] rfl rfl rfl hb146 (by kernel_rfl) (by kernel_rfl) (by kernel_rfl) rfl (fun w hw => by obtain ⟨_, hq, S⟩ := hw; exact (R.loadBN (i := 1) (vs := [vp_e0, vp_e1, vp_e2, (str p_e.fReason), vp_e4, (str p_e.fBody), (int p_e.fRequested), (int p_e.fReceived)]) S rfl rfl lay26 rfl rfl)) ?_
                refine WC.takeY (i := 25) #[true, true, true, true, true, true, true, true, true, true, true, true, true, true, true, true, true, true, true, true, true, true, true, true, true, true, false, false, false, false, false, false, false] rfl rfl rfl hb146 (by kernel_rfl) (by kernel_rfl) (by kernel_rfl) rfl (fun w hw => by obtain ⟨_, hq, S⟩ := hw; exact (R.loadBN (i := 1) (vs := [vp_e0, vp_e1, vp_e2, (str p_e.fReason), vp_e4, (str p_e.fBody), (int p_e.fRequested), (int p_e.fReceived)]) S rfl rfl lay26 rfl rfl)) ?_
                refine WC.next (rs := [26]) ⟨H170, (((((hle151.trans hle155).trans hle159).trans hle163).trans hle167).trans hle171), S.drop _ (.cons_cons _ (.cons_cons _ .slnil))⟩ (by kernel_rfl) (List.cons_ne_nil _ _) (all1 ?_)
                refine Nxt.mk (o := _) #[true, true, true, true, true, true, true, true, true, true, true, true, true, true, true, true, true, true, true, true, true, true, true, true, true, true, true, false, false, false, false, false, false] rfl rfl ?_
                refine WL.gyes rfl rfl hb146 ?_
                refine W.call S rfl (ref26_OwnEntry_ok S.holds (hG.post S.post) p_e Rp_e0 Rp_e1 Rp_e2 Rp_e4 hr105) ?_
                rintro v172 w173 H174 hle175 S ⟨u176, u178, u180, u182, rfl, R177, R179, R181, R183⟩
                have Rp_e0 := Sl.mono Rp_e0 hle175
                have Rp_e1 := Sl.mono Rp_e1 hle175
                have Rp_e2 := Sl.mono Rp_e2 hle175
                have Rp_e4 := Sl.mono Rp_e4 hle175
                have Rp_f0 := Sl.mono Rp_f0 hle175
                have Rp_f1 := Sl.mono Rp_f1 hle175
                have Rp_f2 := Sl.mono Rp_f2 hle175
                have Rp_f4 := Sl.mono Rp_f4 hle175
                refine WL.nil ?_
                refine WC.next (rs := [27]) ⟨H174, ((((((hle151.trans hle155).trans hle159).trans hle163).trans hle167).trans hle171).trans hle175), S.drop _ (.cons_cons _ (.cons_cons _ .slnil))⟩ (by kernel_rfl) (List.cons_ne_nil _ _) (all1 ?_)
                refine Nxt.mk (o := _) #[true, true, true, true, true, true, true, true, true, true, true, true, true, true, true, true, true, true, true, true, true, true, true, true, true, true, true, true, false, false, false, false, false] rfl rfl ?_
                refine WL.gyes rfl rfl hb146 ?_
                refine W.call S rfl (entry_Equal_ok S.holds (hG.post S.post) p_e r105 Rp_e0 Rp_e1 Rp_e2 Rp_e4 R177 R179 R181 R183 hr118) ?_
                rintro v184 w185 H186 hle187 S rfl
                have Rp_e0 := Sl.mono Rp_e0 hle187
                have Rp_e1 := Sl.mono Rp_e1 hle187
                have Rp_e2 := Sl.mono Rp_e2 hle187
                have Rp_e4 := Sl.mono Rp_e4 hle187
                have Rp_f0 := Sl.mono Rp_f0 hle187
                have Rp_f1 := Sl.mono Rp_f1 hle187
                have Rp_f2 := Sl.mono Rp_f2 hle187
                have Rp_f4 := Sl.mono Rp_f4 hle187
                have R177 := Sl.mono R177 hle187
                have R179 := Sl.mono R179 hle187
                have R181 := Sl.mono R181 hle187
                have R183 := Sl.mono R183 hle187
                refine WL.nil ?_
                refine WC.take (i := 28) (v := (boo b104)) #[true, true, true, true, true, true, true, true, true, true, true, true, true, true, true, true, true, true, true, true, true, true, true, true, true, true, true, true, true, false, false, false, false] rfl (by kernel_rfl) (by kernel_rfl) (by kernel_rfl) rfl (fun _ _ => (R.ofEq (R.pickT rfl hb146 rfl) (congrArg boo (Option.some.inj hg85)))) ?_
                refine WC.take (i := 29) #[true, true, true, true, true, true, true, true, true, true, true, true, true, true, true, true, true, true, true, true, true, true, true, true, true, true, true, true, true, true, false, false, false] rfl (by kernel_rfl) (by kernel_rfl) (by kernel_rfl) rfl (fun _ _ => (R.mv (v := (boo b104)) rfl)) ?_
                refine WC.next (rs := [30]) ⟨H186, (((((((hle151.trans hle155).trans hle159).trans hle163).trans hle167).trans hle171).trans hle175).trans hle187), S.drop _ (.cons_cons _ (.cons_cons _ .slnil))⟩ (by kernel_rfl) (List.cons_ne_nil _ _) (all1 ?_)
                refine Nxt.mk (o := _) #[true, true, true, true, true, true, true, true, true, true, true, true, true, true, true, true, true, true, true, true, true, true, true, true, true, true, true, true, true, true, true, false, false] rfl rfl ?_
                refine WL.gyes rfl rfl hb147 ?_
                refine W.call S rfl (law26_awake_ok S.holds (hG.post S.post)  hr134) ?_
                rintro v188 w189 H190 hle191 S rfl
                have Rp_e0 := Sl.mono Rp_e0 hle191
                have Rp_e1 := Sl.mono Rp_e1 hle191
                have Rp_e2 := Sl.mono Rp_e2 hle191
                have Rp_e4 := Sl.mono Rp_e4 hle191
                have Rp_f0 := Sl.mono Rp_f0 hle191
                have Rp_f1 := Sl.mono Rp_f1 hle191
                have Rp_f2 := Sl.mono Rp_f2 hle191
                have Rp_f4 := Sl.mono Rp_f4 hle191
                have R177 := Sl.mono R177 hle191
                have R179 := Sl.mono R179 hle191
                have R181 := Sl.mono R181 hle191
                have R183 := Sl.mono R183 hle191
                refine WL.nil ?_
                refine WC.take (i := 31) (v := (boo b133)) #[true, true, true, true, true, true, true, true, true, true, true, true, true, true, true, true, true, true, true, true, true, true, true, true, true, true, true, true, true, true, true, true, false] rfl (by kernel_rfl) (by kernel_rfl) (by kernel_rfl) rfl (fun _ _ => (R.ofEq (R.pickT rfl hb147 rfl) (congrArg boo (Option.some.inj hg127)))) ?_
                refine WC.take (i := 32) #[true, true, true, true, true, true, true, true, true, true, true, true, true, true, true, true, true, true, true, true, true, true, true, true, true, true, true, true, true, true, true, true, true] rfl (by kernel_rfl) (by kernel_rfl) (by kernel_rfl) rfl (fun _ _ => (R.as (v := (boo b133)) rfl)) ?_
                refine WC.done ⟨H190, ((((((((hle151.trans hle155).trans hle159).trans hle163).trans hle167).trans hle171).trans hle175).trans hle187).trans hle191), S.drop _ (.cons_cons _ (.cons_cons _ .slnil))⟩ (by kernel_rfl) ?_
                have S3 := S
                replace S3 : St w0 H0 _ H190 [.box b3 26 [vp_f0, vp_f1, vp_f2, (str p_f.fReason), vp_f4, (str p_f.fBody), (int p_f.fRequested), (int p_f.fReceived)], .box b1 26 [vp_e0, vp_e1, vp_e2, (str p_e.fReason), vp_e4, (str p_e.fBody), (int p_e.fRequested), (int p_e.fReceived)]] := S3
                replace S3 : St w0 H0 _ H190 [] := S3.drop _ (.cons _ (.cons _ .slnil))
                exact ⟨H190, rfl, S3⟩
              · replace hg127 := condF hg127 hb147
                refine WC.take (i := 0) #[true, false, false, false, false, false, false, false, false, false, false, false, false, false, false, false, false, false, false, false, false, false, false, false, false, false, false, false, false, false, false, false, false] rfl (by kernel_rfl) (by kernel_rfl) (by kernel_rfl) rfl (fun w hw => by obtain ⟨_, hq, S⟩ := hw; exact (R.loadBN (i := 1) (vs := [vp_e0, vp_e1, vp_e2, (str p_e.fReason), vp_e4, (str p_e.fBody), (int p_e.fRequested), (int p_e.fReceived)]) S rfl rfl lay26 rfl rfl)) ?_
                refine WC.take (i := 2) #[true, false, true, false, false, false, false, false, false, false, false, false, false, false, false, false, false, false, false, false, false, false, false, false, false, false, false, false, false, false, false, false, false] rfl (by kernel_rfl) (by kernel_rfl) (by kernel_rfl) rfl (fun w hw => by obtain ⟨_, hq, S⟩ := hw; exact (R.loadBN (i := 1) (vs := [vp_e0, vp_e1, vp_e2, (str p_e.fReason), vp_e4, (str p_e.fBody), (int p_e.fRequested), (int p_e.fReceived)]) S rfl rfl lay26 rfl rfl)) ?_
                refine WC.next (rs := [1]) ⟨H18, (Hp.le.refl _), S.drop _ (.cons_cons _ (.cons_cons _ .slnil))⟩ (by kernel_rfl) (List.cons_ne_nil _ _) (all1 ?_)
                refine Nxt.mk (o := _) #[true, true, true, false, false, false, false, false, false, false, false, false, false, false, false, false, false, false, false, false, false, false, false, false, false, false, false, false, false, false, false, false, false] rfl rfl ?_
                refine W.call S rfl (entry_Size_ok S.holds (hG.post S.post) p_e Rp_e0 Rp_e1 Rp_e2 Rp_e4 hr22) ?_
                rintro v192 w193 H194 hle195 S rfl
                have Rp_e0 := Sl.mono Rp_e0 hle195
                have Rp_e1 := Sl.mono Rp_e1 hle195
                have Rp_e2 := Sl.mono Rp_e2 hle195
                have Rp_e4 := Sl.mono Rp_e4 hle195
                have Rp_f0 := Sl.mono Rp_f0 hle195
                have Rp_f1 := Sl.mono Rp_f1 hle195
                have Rp_f2 := Sl.mono Rp_f2 hle195
                have Rp_f4 := Sl.mono Rp_f4 hle195
                refine WL.nil ?_
                refine WC.next (rs := [3]) ⟨H194, hle195, S.drop _ (.cons_cons _ (.cons_cons _ .slnil))⟩ (by kernel_rfl) (List.cons_ne_nil _ _) (all1 ?_)
                refine Nxt.mk (o := _) #[true, true, true, true, false, false, false, false, false, false, false, false, false, false, false, false, false, false, false, false, false, false, false, false, false, false, false, false, false, false, false, false, false] rfl rfl ?_
                refine W.call S rfl (ref26_Size_ok S.holds (hG.post S.post) p_e Rp_e0 Rp_e1 Rp_e2 Rp_e4 hr27) ?_
                rintro v196 w197 H198 hle199 S rfl
                have Rp_e0 := Sl.mono Rp_e0 hle199
                have Rp_e1 := Sl.mono Rp_e1 hle199
                have Rp_e2 := Sl.mono Rp_e2 hle199
                have Rp_e4 := Sl.mono Rp_e4 hle199
                have Rp_f0 := Sl.mono Rp_f0 hle199
                have Rp_f1 := Sl.mono Rp_f1 hle199
                have Rp_f2 := Sl.mono Rp_f2 hle199
                have Rp_f4 := Sl.mono Rp_f4 hle199
                refine WL.nil ?_
                refine WC.take (i := 4) #[true, true, true, true, true, false, false, false, false, false, false, false, false, false, false, false, false, false, false, false, false, false, false, false, false, false, false, false, false, false, false, false, false] rfl (by kernel_rfl) (by kernel_rfl) (by kernel_rfl) rfl (fun _ _ => (R.eql rfl rfl)) ?_
                refine WC.take (i := 5) #[true, true, true, true, true, true, false, false, false, false, false, false, false, false, false, false, false, false, false, false, false, false, false, false, false, false, false, false, false, false, false, false, false] rfl (by kernel_rfl) (by kernel_rfl) (by kernel_rfl) rfl (fun _ _ => (R.mv (v := (boo (r22 == r27))) rfl)) ?_
                refine WC.takeY (i := 6) #[true, true, true, true, true, true, true, false, false, false, false, false, false, false, false, false, false, false, false, false, false, false, false, false, false, false, false, false, false, false, false, false, false] rfl rfl rfl hb144 (by kernel_rfl) (by kernel_rfl) (by kernel_rfl) rfl (fun w hw => by obtain ⟨_, hq, S⟩ := hw; exact (R.loadBN (i := 1) (vs := [vp_e0, vp_e1, vp_e2, (str p_e.fReason), vp_e4, (str p_e.fBody), (int p_e.fRequested), (int p_e.fReceived)]) S rfl rfl lay26 rfl rfl)) ?_
                refine WC.takeY (i := 7) #[true, true, true, true, true, true, true, true, false, false, false, false, false, false, false, false, false, false, false, false, false, false, false, false, false, false, false, false, false, false, false, false, false] rfl rfl rfl hb144 (by kernel_rfl) (by kernel_rfl) (by kernel_rfl) rfl (fun _ _ => (R.mv (v := (int p_now)) rfl)) ?_
                refine WC.takeY (i := 9) #[true, true, true, true, true, true, true, true, false, true, false, false, false, false, false, false, false, false, false, false, false, false, false, false, false, false, false, false, false, false, false, false, false] rfl rfl rfl hb144 (by kernel_rfl) (by kernel_rfl) (by kernel_rfl) rfl (fun w hw => by obtain ⟨_, hq, S⟩ := hw; exact (R.loadBN (i := 1) (vs := [vp_e0, vp_e1, vp_e2, (str p_e.fReason), vp_e4, (str p_e.fBody), (int p_e.fRequested), (int p_e.fReceived)]) S rfl rfl lay26 rfl rfl)) ?_
                refine WC.takeY (i := 10) #[true, true, true, true, true, true, true, true, false, true, true, false, false, false, false, false, false, false, false, false, false, false, false, false, false, false, false, false, false, false, false, false, false] rfl rfl rfl hb144 (by kernel_rfl) (by kernel_rfl) (by kernel_rfl) rfl (fun _ _ => (R.mv (v := (int p_now)) rfl)) ?_
                refine WC.next (rs := [8]) ⟨H198, (hle195.trans hle199), S.drop _ (.cons_cons _ (.cons_cons _ .slnil))⟩ (by kernel_rfl) (List.cons_ne_nil _ _) (all1 ?_)
                refine Nxt.mk (o := _) #[true, true, true, true, true, true, true, true, true, true, true, false, false, false, false, false, false, false, false, false, false, false, false, false, false, false, false, false, false, false, false, false, false] rfl rfl ?_
                refine WL.gyes rfl rfl hb144 ?_
                refine W.call S rfl (entry_Age_ok S.holds (hG.post S.post) p_e p_now Rp_e0 Rp_e1 Rp_e2 Rp_e4 hr45) ?_
                rintro v200 w201 H202 hle203 S rfl
                have Rp_e0 := Sl.mono Rp_e0 hle203
                have Rp_e1 := Sl.mono Rp_e1 hle203
                have Rp_e2 := Sl.mono Rp_e2 hle203
                have Rp_e4 := Sl.mono Rp_e4 hle203
                have Rp_f0 := Sl.mono Rp_f0 hle203
                have Rp_f1 := Sl.mono Rp_f1 hle203
                have Rp_f2 := Sl.mono Rp_f2 hle203
                have Rp_f4 := Sl.mono Rp_f4 hle203
                refine WL.nil ?_
                refine WC.next (rs := [11]) ⟨H202, ((hle195.trans hle199).trans hle203), S.drop _ (.cons_cons _ (.cons_cons _ .slnil))⟩ (by kernel_rfl) (List.cons_ne_nil _ _) (all1 ?_)
                refine Nxt.mk (o := _) #[true, true, true, true, true, true, true, true, true, true, true, true, false, false, false, false, false, false, false, false, false, false, false, false, false, false, false, false, false, false, false, false, false] rfl rfl ?_
                refine WL.gyes rfl rfl hb144 ?_
                refine W.call S rfl (ref26_Age_ok S.holds (hG.post S.post) p_e p_now Rp_e0 Rp_e1 Rp_e2 Rp_e4 hr50) ?_
                rintro v204 w205 H206 hle207 S rfl
                have Rp_e0 := Sl.mono Rp_e0 hle207
                have Rp_e1 := Sl.mono Rp_e1 hle207
                have Rp_e2 := Sl.mono Rp_e2 hle207
                have Rp_e4 := Sl.mono Rp_e4 hle207
                have Rp_f0 := Sl.mono Rp_f0 hle207
                have Rp_f1 := Sl.mono Rp_f1 hle207
                have Rp_f2 := Sl.mono Rp_f2 hle207
                have Rp_f4 := Sl.mono Rp_f4 hle207
                refine WL.nil ?_
                refine WC.takeY (i := 12) #[true, true, true, true, true, true, true, true, true, true, true, true, true, false, false, false, false, false, false, false, false, false, false, false, false, false, false, false, false, false, false, false, false] rfl rfl rfl hb144 (by kernel_rfl) (by kernel_rfl) (by kernel_rfl) rfl (fun _ _ => (R.eql rfl rfl)) ?_
                refine WC.take (i := 13) (v := (boo b44)) #[true, true, true, true, true, true, true, true, true, true, true, true, true, true, false, false, false, false, false, false, false, false, false, false, false, false, false, false, false, false, false, false, false] rfl (by kernel_rfl) (by kernel_rfl) (by kernel_rfl) rfl (fun _ _ => (R.ofEq (R.pickT rfl hb144 rfl) (congrArg boo (Option.some.inj hg33)))) ?_
                refine WC.take (i := 14) #[true, true, true, true, true, true, true, true, true, true, true, true, true, true, true, false, false, false, false, false, false, false, false, false, false, false, false, false, false, false, false, false, false] rfl (by kernel_rfl) (by kernel_rfl) (by kernel_rfl) rfl (fun _ _ => (R.mv (v := (boo b44)) rfl)) ?_
                refine WC.takeY (i := 15) #[true, true, true, true, true, true, true, true, true, true, true, true, true, true, true, true, false, false, false, false, false, false, false, false, false, false, false, false, false, false, false, false, false] rfl rfl rfl hb145 (by kernel_rfl) (by kernel_rfl) (by kernel_rfl) rfl (fun w hw => by obtain ⟨_, hq, S⟩ := hw; exact (R.loadBN (i := 1) (vs := [vp_e0, vp_e1, vp_e2, (str p_e.fReason), vp_e4, (str p_e.fBody), (int p_e.fRequested), (int p_e.fReceived)]) S rfl rfl lay26 rfl rfl)) ?_
                refine WC.takeY (i := 16) #[true, true, true, true, true, true, true, true, true, true, true, true, true, true, true, true, true, false, false, false, false, false, false, false, false, false, false, false, false, false, false, false, false] rfl rfl rfl hb145 (by kernel_rfl) (by kernel_rfl) (by kernel_rfl) rfl (fun w hw => by obtain ⟨_, hq, S⟩ := hw; exact (R.loadBN (i := 0) (vs := [vp_f0, vp_f1, vp_f2, (str p_f.fReason), vp_f4, (str p_f.fBody), (int p_f.fRequested), (int p_f.fReceived)]) S rfl rfl lay26 rfl rfl)) ?_
                refine WC.takeY (i := 18) #[true, true, true, true, true, true, true, true, true, true, true, true, true, true, true, true, true, false, true, false, false, false, false, false, false, false, false, false, false, false, false, false, false] rfl rfl rfl hb145 (by kernel_rfl) (by kernel_rfl) (by kernel_rfl) rfl (fun w hw => by obtain ⟨_, hq, S⟩ := hw; exact (R.loadBN (i := 1) (vs := [vp_e0, vp_e1, vp_e2, (str p_e.fReason), vp_e4, (str p_e.fBody), (int p_e.fRequested), (int p_e.fReceived)]) S rfl rfl lay26 rfl rfl)) ?_
                refine WC.takeY (i := 19) #[true, true, true, true, true, true, true, true, true, true, true, true, true, true, true, true, true, false, true, true, false, false, false, false, false, false, false, false, false, false, false, false, false] rfl rfl rfl hb145 (by kernel_rfl) (by kernel_rfl) (by kernel_rfl) rfl (fun w hw => by obtain ⟨_, hq, S⟩ := hw; exact (R.loadBN (i := 0) (vs := [vp_f0, vp_f1, vp_f2, (str p_f.fReason), vp_f4, (str p_f.fBody), (int p_f.fRequested), (int p_f.fReceived)]) S rfl rfl lay26 rfl rfl)) ?_
                refine WC.next (rs := [17]) ⟨H206, (((hle195.trans hle199).trans hle203).trans hle207), S.drop _ (.cons_cons _ (.cons_cons _ .slnil))⟩ (by kernel_rfl) (List.cons_ne_nil _ _) (all1 ?_)
                refine Nxt.mk (o := _) #[true, true, true, true, true, true, true, true, true, true, true, true, true, true, true, true, true, true, true, true, false, false, false, false, false, false, false, false, false, false, false, false, false] rfl rfl ?_
                refine WL.gyes rfl rfl hb145 ?_
                refine W.call S rfl (entry_Equal_ok S.holds (hG.post S.post) p_e p_f Rp_e0 Rp_e1 Rp_e2 Rp_e4 Rp_f0 Rp_f1 Rp_f2 Rp_f4 hr71) ?_
                rintro v208 w209 H210 hle211 S rfl
                have Rp_e0 := Sl.mono Rp_e0 hle211
                have Rp_e1 := Sl.mono Rp_e1 hle211
                have Rp_e2 := Sl.mono Rp_e2 hle211
                have Rp_e4 := Sl.mono Rp_e4 hle211
                have Rp_f0 := Sl.mono Rp_f0 hle211
                have Rp_f1 := Sl.mono Rp_f1 hle211
                have Rp_f2 := Sl.mono Rp_f2 hle211
                have Rp_f4 := Sl.mono Rp_f4 hle211
                refine WL.nil ?_
                refine WC.next (rs := [20]) ⟨H210, ((((hle195.trans hle199).trans hle203).trans hle207).trans hle211), S.drop _ (.cons_cons _ (.cons_cons _ .slnil))⟩ (by kernel_rfl) (List.cons_ne_nil _ _) (all1 ?_)
                refine Nxt.mk (o := _) #[true, true, true, true, true, true, true, true, true, true, true, true, true, true, true, true, true, true, true, true, true, false, false, false, false, false, false, false, false, false, false, false, false] rfl rfl ?_
                refine WL.gyes rfl rfl hb145 ?_
                refine W.call S rfl (ref26_Equal_ok S.holds (hG.post S.post) p_e p_f Rp_e0 Rp_e1 Rp_e2 Rp_e4 Rp_f0 Rp_f1 Rp_f2 Rp_f4 hr76) ?_
                rintro v212 w213 H214 hle215 S rfl
                have Rp_e0 := Sl.mono Rp_e0 hle215
                have Rp_e1 := Sl.mono Rp_e1 hle215
                have Rp_e2 := Sl.mono Rp_e2 hle215
                have Rp_e4 := Sl.mono Rp_e4 hle215
                have Rp_f0 := Sl.mono Rp_f0 hle215
                have Rp_f1 := Sl.mono Rp_f1 hle215
                have Rp_f2 := Sl.mono Rp_f2 hle215
                have Rp_f4 := Sl.mono Rp_f4 hle215
                refine WL.nil ?_
                refine WC.takeY (i := 21) #[true, true, true, true, true, true, true, true, true, true, true, true, true, true, true, true, true, true, true, true, true, true, false, false, false, false, false, false, false, false, false, false, false] rfl rfl rfl hb145 (by kernel_rfl) (by kernel_rfl) (by kernel_rfl) rfl (fun _ _ => (R.eqlB rfl rfl Tryd.underlying4)) ?_
                refine WC.take (i := 22) (v := (boo b70)) #[true, true, true, true, true, true, true, true, true, true, true, true, true, true, true, true, true, true, true, true, true, true, true, false, false, false, false, false, false, false, false, false, false] rfl (by kernel_rfl) (by kernel_rfl) (by kernel_rfl) rfl (fun _ _ => (R.ofEq (R.pickT rfl hb145 rfl) (congrArg boo (Option.some.inj hg59)))) ?_
                refine WC.take (i := 23) #[true, true, true, true, true, true, true, true, true, true, true, true, true, true, true, true, true, true, true, true, true, true, true, true, false, false, false, false, false, false, false, false, false] rfl (by kernel_rfl) (by kernel_rfl) (by kernel_rfl) rfl (fun _ _ => (R.mv (v := (boo b70)) rfl)) ?_
                refine WC.takeY (i := 24) #[true, true, true, true, true, true, true, true, true, true, true, true, true, true, true, true, true, true, true, true, true, true, true, true, true, false, false, false, false, false, false, false, false] rfl rfl rfl hb146 (by kernel_rfl) (by kernel_rfl) (by kernel_rfl) rfl (fun w hw => by obtain ⟨_, hq, S⟩ := hw; exact (R.loadBN (i := 1) (vs := [vp_e0, vp_e1, vp_e2, (str p_e.fReason), vp_e4, (str p_e.fBody), (int p_e.fRequested), (int p_e.fReceived)]) S rfl rfl lay26 rfl rfl)) ?_
                refine WC.takeY (i := 25) #[true, true, true, true, true, true, true, true, true, true, true, true, true, true, true, true, true, true, true, true, true, true, true, true, true, true, false, false, false, false, false, false, false] rfl rfl rfl hb146 (by kernel_rfl) (by kernel_rfl) (by kernel_rfl) rfl (fun w hw => by obtain ⟨_, hq, S⟩ := hw; exact (R.loadBN (i := 1) (vs := [vp_e0, vp_e1, vp_e2, (str p_e.fReason), vp_e4, (str p_e.fBody), (int p_e.fRequested), (int p_e.fReceived)]) S rfl rfl lay26 rfl rfl)) ?_
                refine WC.next (rs := [26]) ⟨H214, (((((hle195.trans hle199).trans hle203).trans hle207).trans hle211).trans hle215), S.drop _ (.cons_cons _ (.cons_cons _ .slnil))⟩ (by kernel_rfl) (List.cons_ne_nil _ _) (all1 ?_)
                refine Nxt.mk (o := _) #[true, true, true, true, true, true, true, true, true, true, true, true, true, true, true, true, true, true, true, true, true, true, true, true, true, true, true, false, false, false, false, false, false] rfl rfl ?_
                refine WL.gyes rfl rfl hb146 ?_
                refine W.call S rfl (ref26_OwnEntry_ok S.holds (hG.post S.post) p_e Rp_e0 Rp_e1 Rp_e2 Rp_e4 hr105) ?_
                rintro v216 w217 H218 hle219 S ⟨u220, u222, u224, u226, rfl, R221, R223, R225, R227⟩
                have Rp_e0 := Sl.mono Rp_e0 hle219
                have Rp_e1 := Sl.mono Rp_e1 hle219
                have Rp_e2 := Sl.mono Rp_e2 hle219
                have Rp_e4 := Sl.mono Rp_e4 hle219
                have Rp_f0 := Sl.mono Rp_f0 hle219
                have Rp_f1 := Sl.mono Rp_f1 hle219
                have Rp_f2 := Sl.mono Rp_f2 hle219
                have Rp_f4 := Sl.mono Rp_f4 hle219
                refine WL.nil ?_
                refine WC.next (rs := [27]) ⟨H218, ((((((hle195.trans hle199).trans hle203).trans hle207).trans hle211).trans hle215).trans hle219), S.drop _ (.cons_cons _ (.cons_cons _ .slnil))⟩ (by kernel_rfl) (List.cons_ne_nil _ _) (all1 ?_)
                refine Nxt.mk (o := _) #[true, true, true, true, true, true, true, true, true, true, true, true, true, true, true, true, true, true, true, true, true, true, true, true, true, true, true, true, false, false, false, false, false] rfl rfl ?_
                refine WL.gyes rfl rfl hb146 ?_
                refine W.call S rfl (entry_Equal_ok S.holds (hG.post S.post) p_e r105 Rp_e0 Rp_e1 Rp_e2 Rp_e4 R221 R223 R225 R227 hr118) ?_
                rintro v228 w229 H230 hle231 S rfl
                have Rp_e0 := Sl.mono Rp_e0 hle231
                have Rp_e1 := Sl.mono Rp_e1 hle231
                have Rp_e2 := Sl.mono Rp_e2 hle231
                have Rp_e4 := Sl.mono Rp_e4 hle231
                have Rp_f0 := Sl.mono Rp_f0 hle231
                have Rp_f1 := Sl.mono Rp_f1 hle231
                have Rp_f2 := Sl.mono Rp_f2 hle231
                have Rp_f4 := Sl.mono Rp_f4 hle231
                have R221 := Sl.mono R221 hle231
                have R223 := Sl.mono R223 hle231
                have R225 := Sl.mono R225 hle231
                have R227 := Sl.mono R227 hle231
                refine WL.nil ?_
                refine WC.take (i := 28) (v := (boo b104)) #[true, true, true, true, true, true, true, true, true, true, true, true, true, true, true, true, true, true, true, true, true, true, true, true, true, true, true, true, true, false, false, false, false] rfl (by kernel_rfl) (by kernel_rfl) (by kernel_rfl) rfl (fun _ _ => (R.ofEq (R.pickT rfl hb146 rfl) (congrArg boo (Option.some.inj hg85)))) ?_
                refine WC.take (i := 29) #[true, true, true, true, true, true, true, true, true, true, true, true, true, true, true, true, true, true, true, true, true, true, true, true, true, true, true, true, true, true, false, false, false] rfl (by kernel_rfl) (by kernel_rfl) (by kernel_rfl) rfl (fun _ _ => (R.mv (v := (boo b104)) rfl)) ?_
                refine WC.takeN (i := 30) #[true, true, true, true, true, true, true, true, true, true, true, true, true, true, true, true, true, true, true, true, true, true, true, true, true, true, true, true, true, true, true, false, false] rfl rfl rfl hb147 (by kernel_rfl) (by kernel_rfl) (by kernel_rfl) rfl ?_
                refine WC.take (i := 31) (v := (boo b133)) #[true, true, true, true, true, true, true, true, true, true, true, true, true, true, true, true, true, true, true, true, true, true, true, true, true, true, true, true, true, true, true, true, false] rfl (by kernel_rfl) (by kernel_rfl) (by kernel_rfl) rfl (fun _ _ => (R.ofEq (R.pickF rfl hb147 rfl) (congrArg boo (Option.some.inj hg127)))) ?_
                refine WC.take (i := 32) #[true, true, true, true, true, true, true, true, true, true, true, true, true, true, true, true, true, true, true, true, true, true, true, true, true, true, true, true, true, true, true, true, true] rfl (by kernel_rfl) (by kernel_rfl) (by kernel_rfl) rfl (fun _ _ => (R.as (v := (boo b133)) rfl)) ?_
                refine WC.done ⟨H230, (((((((hle195.trans hle199).trans hle203).trans hle207).trans hle211).trans hle215).trans hle219).trans hle231), S.drop _ (.cons_cons _ (.cons_cons _ .slnil))⟩ (by kernel_rfl) ?_
                have S3 := S
                replace S3 : St w0 H0 _ H230 [.box b3 26 [vp_f0, vp_f1, vp_f2, (str p_f.fReason), vp_f4, (str p_f.fBody), (int p_f.fRequested), (int p_f.fReceived)], .box b1 26 [vp_e0, vp_e1, vp_e2, (str p_e.fReason), vp_e4, (str p_e.fBody), (int p_e.fRequested), (int p_e.fReceived)]] := S3
                replace S3 : St w0 H0 _ H230 [] := S3.drop _ (.cons _ (.cons _ .slnil))
                exact ⟨H230, rfl, S3⟩
            · replace hg85 := condF hg85 hb146
              replace hg127 := condF hg127 (Option.some.inj hg85).symm
              refine WC.take (i := 0) #[true, false, false, false, false, false, false, false, false, false, false, false, false, false, false, false, false, false, false, false, false, false, false, false, false, false, false, false, false, false, false, false, false] rfl (by kernel_rfl) (by kernel_rfl) (by kernel_rfl) rfl (fun w hw => by obtain ⟨_, hq, S⟩ := hw; exact (R.loadBN (i := 1) (vs := [vp_e0, vp_e1, vp_e2, (str p_e.fReason), vp_e4, (str p_e.fBody), (int p_e.fRequested), (int p_e.fReceived)]) S rfl rfl lay26 rfl rfl)) ?_
              refine WC.take (i := 2) #[true, false, true, false, false, false, false, false, false, false, false, false, false, false, false, false, false, false, false, false, false, false, false, false, false, false, false, false, false, false, false, false, false] rfl (by kernel_rfl) (by kernel_rfl) (by kernel_rfl) rfl (fun w hw => by obtain ⟨_, hq, S⟩ := hw; exact (R.loadBN (i := 1) (vs := [vp_e0, vp_e1, vp_e2, (str p_e.fReason), vp_e4, (str p_e.fBody), (int p_e.fRequested), (int p_e.fReceived)]) S rfl rfl lay26 rfl rfl)) ?_
              refine WC.next (rs := [1]) ⟨H18, (Hp.le.refl _), S.drop _ (.cons_cons _ (.cons_cons _ .slnil))⟩ (by kernel_rfl) (List.cons_ne_nil _ _) (all1 ?_)
              refine Nxt.mk (o := _) #[true, true, true, false, false, false, false, false, false, false, false, false, false, false, false, false, false, false, false, false, false, false, false, false, false, false, false, false, false, false, false, false, false] rfl rfl ?_
              refine W.call S rfl (entry_Size_ok S.holds (hG.post S.post) p_e Rp_e0 Rp_e1 Rp_e2 Rp_e4 hr22) ?_
              rintro v232 w233 H234 hle235 S rfl
              have Rp_e0 := Sl.mono Rp_e0 hle235
              have Rp_e1 := Sl.mono Rp_e1 hle235
              have Rp_e2 := Sl.mono Rp_e2 hle235
              have Rp_e4 := Sl.mono Rp_e4 hle235
              have Rp_f0 := Sl.mono Rp_f0 hle235
              have Rp_f1 := Sl.mono Rp_f1 hle235
              have Rp_f2 := Sl.mono Rp_f2 hle235
              have Rp_f4 := Sl.mono Rp_f4 hle235
              refine WL.nil ?_
              refine WC.next (rs := [3]) ⟨H234, hle235, S.drop _ (.cons_cons _ (.cons_cons _ .slnil))⟩ (by kernel_rfl) (List.cons_ne_nil _ _) (all1 ?_)
              refine Nxt.mk (o := _) #[true, true, true, true, false, false, false, false, false, false, false, false, false, false, false, false, false, false, false, false, false, false, false, false, false, false, false, false, false, false, false, false, false] rfl rfl ?_
              refine W.call S rfl (ref26_Size_ok S.holds (hG.post S.post) p_e Rp_e0 Rp_e1 Rp_e2 Rp_e4 hr27) ?_
              rintro v236 w237 H238 hle239 S rfl
              have Rp_e0 := Sl.mono Rp_e0 hle239
              have Rp_e1 := Sl.mono Rp_e1 hle239
              have Rp_e2 := Sl.mono Rp_e2 hle239
              have Rp_e4 := Sl.mono Rp_e4 hle239
              have Rp_f0 := Sl.mono Rp_f0 hle239
              have Rp_f1 := Sl.mono Rp_f1 hle239
              have Rp_f2 := Sl.mono Rp_f2 hle239
              have Rp_f4 := Sl.mono Rp_f4 hle239
              refine WL.nil ?_
              refine WC.take (i := 4) #[true, true, true, true, true, false, false, false, false, false, false, false, false, false, false, false, false, false, false, false, false, false, false, false, false, false, false, false, false, false, false, false, false] rfl (by kernel_rfl) (by kernel_rfl) (by kernel_rfl) rfl (fun _ _ => (R.eql rfl rfl)) ?_
              refine WC.take (i := 5) #[true, true, true, true, true, true, false, false, false, false, false, false, false, false, false, false, false, false, false, false, false, false, false, false, false, false, false, false, false, false, false, false, false] rfl (by kernel_rfl) (by kernel_rfl) (by kernel_rfl) rfl (fun _ _ => (R.mv (v := (boo (r22 == r27))) rfl)) ?_
              refine WC.takeY (i := 6) #[true, true, true, true, true, true, true, false, false, false, false, false, false, false, false, false, false, false, false, false, false, false, false, false, false, false, false, false, false, false, false, false, false] rfl rfl rfl hb144 (by kernel_rfl) (by kernel_rfl) (by kernel_rfl) rfl (fun w hw => by obtain ⟨_, hq, S⟩ := hw; exact (R.loadBN (i := 1) (vs := [vp_e0, vp_e1, vp_e2, (str p_e.fReason), vp_e4, (str p_e.fBody), (int p_e.fRequested), (int p_e.fReceived)]) S rfl rfl lay26 rfl rfl)) ?_
              refine WC.takeY (i := 7) #[true, true, true, true, true, true, true, true, false, false, false, false, false, false, false, false, false, false, false, false, false, false, false, false, false, false, false, false, false, false, false, false, false] rfl rfl rfl hb144 (by kernel_rfl) (by kernel_rfl) (by kernel_rfl) rfl (fun _ _ => (R.mv (v := (int p_now)) rfl)) ?_
              refine WC.takeY (i := 9) #[true, true, true, true, true, true, true, true, false, true, false, false, false, false, false, false, false, false, false, false, false, false, false, false, false, false, false, false, false, false, false, false, false] rfl rfl rfl hb144 (by kernel_rfl) (by kernel_rfl) (by kernel_rfl) rfl (fun w hw => by obtain ⟨_, hq, S⟩ := hw; exact (R.loadBN (i := 1) (vs := [vp_e0, vp_e1, vp_e2, (str p_e.fReason), vp_e4, (str p_e.fBody), (int p_e.fRequested), (int p_e.fReceived)]) S rfl rfl lay26 rfl rfl)) ?_
              refine WC.takeY (i := 10) #[true, true, true, true, true, true, true, true, false, true, true, false, false, false, false, false, false, false, false, false, false, false, false, false, false, false, false, false, false, false, false, false, false] rfl rfl rfl hb144 (by kernel_rfl) (by kernel_rfl) (by kernel_rfl) rfl (fun _ _ => (R.mv (v := (int p_now)) rfl)) ?_
              refine WC.next (rs := [8]) ⟨H238, (hle235.trans hle239), S.drop _ (.cons_cons _ (.cons_cons _ .slnil))⟩ (by kernel_rfl) (List.cons_ne_nil _ _) (all1 ?_)
              refine Nxt.mk (o := _) #[true, true, true, true, true, true, true, true, true, true, true, false, false, false, false, false, false, false, false, false, false, false, false, false, false, false, false, false, false, false, false, false, false] rfl rfl ?_
              refine WL.gyes rfl rfl hb144 ?_
              refine W.call S rfl (entry_Age_ok S.holds (hG.post S.post) p_e p_now Rp_e0 Rp_e1 Rp_e2 Rp_e4 hr45) ?_
              rintro v240 w241 H242 hle243 S rfl
              have Rp_e0 := Sl.mono Rp_e0 hle243
              have Rp_e1 := Sl.mono Rp_e1 hle243
              have Rp_e2 := Sl.mono Rp_e2 hle243
              have Rp_e4 := Sl.mono Rp_e4 hle243
              have Rp_f0 := Sl.mono Rp_f0 hle243
              have Rp_f1 := Sl.mono Rp_f1 hle243
              have Rp_f2 := Sl.mono Rp_f2 hle243
              have Rp_f4 := Sl.mono Rp_f4 hle243
              refine WL.nil ?_
              refine WC.next (rs := [11]) ⟨H242, ((hle235.trans hle239).trans hle243), S.drop _ (.cons_cons _ (.cons_cons _ .slnil))⟩ (by kernel_rfl) (List.cons_ne_nil _ _) (all1 ?_)
              refine Nxt.mk (o := _) #[true, true, true, true, true, true, true, true, true, true, true, true, false, false, false, false, false, false, false, false, false, false, false, false, false, false, false, false, false, false, false, false, false] rfl rfl ?_
              refine WL.gyes rfl rfl hb144 ?_
              refine W.call S rfl (ref26_Age_ok S.holds (hG.post S.post) p_e p_now Rp_e0 Rp_e1 Rp_e2 Rp_e4 hr50) ?_
              rintro v244 w245 H246 hle247 S rfl
              have Rp_e0 := Sl.mono Rp_e0 hle247
              have Rp_e1 := Sl.mono Rp_e1 hle247
              have Rp_e2 := Sl.mono Rp_e2 hle247
              have Rp_e4 := Sl.mono Rp_e4 hle247
              have Rp_f0 := Sl.mono Rp_f0 hle247
              have Rp_f1 := Sl.mono Rp_f1 hle247
              have Rp_f2 := Sl.mono Rp_f2 hle247
              have Rp_f4 := Sl.mono Rp_f4 hle247
              refine WL.nil ?_
              refine WC.takeY (i := 12) #[true, true, true, true, true, true, true, true, true, true, true, true, true, false, false, false, false, false, false, false, false, false, false, false, false, false, false, false, false, false, false, false, false] rfl rfl rfl hb144 (by kernel_rfl) (by kernel_rfl) (by kernel_rfl) rfl (fun _ _ => (R.eql rfl rfl)) ?_
              refine WC.take (i := 13) (v := (boo b44)) #[true, true, true, true, true, true, true, true, true, true, true, true, true, true, false, false, false, false, false, false, false, false, false, false, false, false, false, false, false, false, false, false, false] rfl (by kernel_rfl) (by kernel_rfl) (by kernel_rfl) rfl (fun _ _ => (R.ofEq (R.pickT rfl hb144 rfl) (congrArg boo (Option.some.inj hg33)))) ?_
              refine WC.take (i := 14) #[true, true, true, true, true, true, true, true, true, true, true, true, true, true, true, false, false, false, false, false, false, false, false, false, false, false, false, false, false, false, false, false, false] rfl (by kernel_rfl) (by kernel_rfl) (by kernel_rfl) rfl (fun _ _ => (R.mv (v := (boo b44)) rfl)) ?_
              refine WC.takeY (i := 15) #[true, true, true, true, true, true, true, true, true, true, true, true, true, true, true, true, false, false, false, false, false, false, false, false, false, false, false, false, false, false, false, false, false] rfl rfl rfl hb145 (by kernel_rfl) (by kernel_rfl) (by kernel_rfl) rfl (fun w hw => by obtain ⟨_, hq, S⟩ := hw; exact (R.loadBN (i := 1) (vs := [vp_e0, vp_e1, vp_e2, (str p_e.fReason), vp_e4, (str p_e.fBody), (int p_e.fRequested), (int p_e.fReceived)]) S rfl rfl lay26 rfl rfl)) ?_
              refine WC.takeY (i := 16) #[true, true, true, true, true, true, true, true, true, true, true, true, true, true, true, true, true, false, false, false, false, false, false, false, false, false, false, false, false, false, false, false, false] rfl rfl rfl hb145 (by kernel_rfl) (by kernel_rfl) (by kernel_rfl) rfl (fun w hw => by obtain ⟨_, hq, S⟩ := hw; exact (R.loadBN (i := 0) (vs := [vp_f0, vp_f1, vp_f2, (str p_f.fReason), vp_f4, (str p_f.fBody), (int p_f.fRequested), (int p_f.fReceived)]) S rfl rfl lay26 rfl rfl)) ?_
              refine WC.takeY (i := 18) #[true, true, true, true, true, true, true, true, true, true, true, true, true, true, true, true, true, false, true, false, false, false, false, false, false, false, false, false, false, false, false, false, false] rfl rfl rfl hb145 (by kernel_rfl) (by kernel_rfl) (by kernel_rfl) rfl (fun w hw => by obtain ⟨_, hq, S⟩ := hw; exact (R.loadBN (i := 1) (vs := [vp_e0, vp_e1, vp_e2, (str p_e.fReason), vp_e4, (str p_e.fBody), (int p_e.fRequested), (int p_e.fReceived)]) S rfl rfl lay26 rfl rfl)) ?_
              refine WC.takeY (i := 19) #[true, true, true, true, true, true, true, true, true, true, true, true, true, true, true, true, true, false, true, true, false, false, false, false, false, false, false, false, false, false, false, false, false] rfl rfl rfl hb145 (by kernel_rfl) (by kernel_rfl) (by kernel_rfl) rfl (fun w hw => by obtain ⟨_, hq, S⟩ := hw; exact (R.loadBN (i := 0) (vs := [vp_f0, vp_f1, vp_f2, (str p_f.fReason), vp_f4, (str p_f.fBody), (int p_f.fRequested), (int p_f.fReceived)]) S rfl rfl lay26 rfl rfl)) ?_
              refine WC.next (rs := [17]) ⟨H246, (((hle235.trans hle239).trans hle243).trans hle247), S.drop _ (.cons_cons _ (.cons_cons _ .slnil))⟩ (by kernel_rfl) (List.cons_ne_nil _ _) (all1 ?_)
              refine Nxt.mk (o := _) #[true, true, true, true, true, true, true, true, true, true, true, true, true, true, true, true, true, true, true, true, false, false, false, false, false, false, false, false, false, false, false, false, false] rfl rfl ?_
              refine WL.gyes rfl rfl hb145 ?_
              refine W.call S rfl (entry_Equal_ok S.holds (hG.post S.post) p_e p_f Rp_e0 Rp_e1 Rp_e2 Rp_e4 Rp_f0 Rp_f1 Rp_f2 Rp_f4 hr71) ?_
              rintro v248 w249 H250 hle251 S rfl
              have Rp_e0 := Sl.mono Rp_e0 hle251
              have Rp_e1 := Sl.mono Rp_e1 hle251
              have Rp_e2 := Sl.mono Rp_e2 hle251
              have Rp_e4 := Sl.mono Rp_e4 hle251
              have Rp_f0 := Sl.mono Rp_f0 hle251
              have Rp_f1 := Sl.mono Rp_f1 hle251
              have Rp_f2 := Sl.mono Rp_f2 hle251
              have Rp_f4 := Sl.mono Rp_f4 hle251
              refine WL.nil ?_
              refine WC.next (rs := [20]) ⟨H250, ((((hle235.trans hle239).trans hle243).trans hle247).trans hle251), S.drop _ (.cons_cons _ (.cons_cons _ .slnil))⟩ (by kernel_rfl) (List.cons_ne_nil _ _) (all1 ?_)
              refine Nxt.mk (o := _) #[true, true, true, true, true, true, true, true, true, true, true, true, true, true, true, true, true, true, true, true, true, false, false, false, false, false, false, false, false, false, false, false, false] rfl rfl ?_
              refine WL.gyes rfl rfl hb145 ?_
              refine W.call S rfl (ref26_Equal_ok S.holds (hG.post S.post) p_e p_f Rp_e0 Rp_e1 Rp_e2 Rp_e4 Rp_f0 Rp_f1 Rp_f2 Rp_f4 hr76) ?_
              rintro v252 w253 H254 hle255 S rfl
              have Rp_e0 := Sl.mono Rp_e0 hle255
              have Rp_e1 := Sl.mono Rp_e1 hle255
              have Rp_e2 := Sl.mono Rp_e2 hle255
              have Rp_e4 := Sl.mono Rp_e4 hle255
              have Rp_f0 := Sl.mono Rp_f0 hle255
              have Rp_f1 := Sl.mono Rp_f1 hle255
              have Rp_f2 := Sl.mono Rp_f2 hle255
              have Rp_f4 := Sl.mono Rp_f4 hle255
              refine WL.nil ?_
              refine WC.takeY (i := 21) #[true, true, true, true, true, true, true, true, true, true, true, true, true, true, true, true, true, true, true, true, true, true, false, false, false, false, false, false, false, false, false, false, false] rfl rfl rfl hb145 (by kernel_rfl) (by kernel_rfl) (by kernel_rfl) rfl (fun _ _ => (R.eqlB rfl rfl Tryd.underlying4)) ?_
              refine WC.take (i := 22) (v := (boo b70)) #[true, true, true, true, true, true, true, true, true, true, true, true, true, true, true, true, true, true, true, true, true, true, true, false, false, false, false, false, false, false, false, false, false] rfl (by kernel_rfl) (by kernel_rfl) (by kernel_rfl) rfl (fun _ _ => (R.ofEq (R.pickT rfl hb145 rfl) (congrArg boo (Option.some.inj hg59)))) ?_
              refine WC.take (i := 23) #[true, true, true, true, true, true, true, true, true, true, true, true, true, true, true, true, true, true, true, true, true, true, true, true, false, false, false, false, false, false, false, false, false] rfl (by kernel_rfl) (by kernel_rfl) (by kernel_rfl) rfl (fun _ _ => (R.mv (v := (boo b70)) rfl)) ?_
              refine WC.takeN (i := 24) #[true, true, true, true, true, true, true, true, true, true, true, true, true, true, true, true, true, true, true, true, true, true, true, true, true, false, false, false, false, false, false, false, false] rfl rfl rfl hb146 (by kernel_rfl) (by kernel_rfl) (by kernel_rfl) rfl ?_
              refine WC.takeN (i := 25) #[true, true, true, true, true, true, true, true, true, true, true, true, true, true, true, true, true, true, true, true, true, true, true, true, true, true, false, false, false, false, false, false, false] rfl rfl rfl hb146 (by kernel_rfl) (by kernel_rfl) (by kernel_rfl) rfl ?_
              refine WC.takeN (i := 26) #[true, true, true, true, true, true, true, true, true, true, true, true, true, true, true, true, true, true, true, true, true, true, true, true, true, true, true, false, false, false, false, false, false] rfl rfl rfl hb146 (by kernel_rfl) (by kernel_rfl) (by kernel_rfl) rfl ?_
              refine WC.takeN (i := 27) #[true, true, true, true, true, true, true, true, true, true, true, true, true, true, true, true, true, true, true, true, true, true, true, true, true, true, true, true, false, false, false, false, false] rfl rfl rfl hb146 (by kernel_rfl) (by kernel_rfl) (by kernel_rfl) rfl ?_
              refine WC.take (i := 28) (v := (boo b104)) #[true, true, true, true, true, true, true, true, true, true, true, true, true, true, true, true, true, true, true, true, true, true, true, true, true, true, true, true, true, false, false, false, false] rfl (by kernel_rfl) (by kernel_rfl) (by kernel_rfl) rfl (fun _ _ => (R.ofEq (R.pickF rfl hb146 rfl) (congrArg boo (Option.some.inj hg85)))) ?_
              refine WC.take (i := 29) #[true, true, true, true, true, true, true, true, true, true, true, true, true, true, true, true, true, true, true, true, true, true, true, true, true, true, true, true, true, true, false, false, false] rfl (by kernel_rfl) (by kernel_rfl) (by kernel_rfl) rfl (fun _ _ => (R.mv (v := (boo b104)) rfl)) ?_
              refine WC.takeN (i := 30) #[true, true, true, true, true, true, true, true, true, true, true, true, true, true, true, true, true, true, true, true, true, true, true, true, true, true, true, true, true, true, true, false, false] rfl rfl rfl (Option.some.inj hg85).symm (by kernel_rfl) (by kernel_rfl) (by kernel_rfl) rfl ?_
              refine WC.take (i := 31) (v := (boo b133)) #[true, true, true, true, true, true, true, true, true, true, true, true, true, true, true, true, true, true, true, true, true, true, true, true, true, true, true, true, true, true, true, true, false] rfl (by kernel_rfl) (by kernel_rfl) (by kernel_rfl) rfl (fun _ _ => (R.ofEq (R.pickF rfl (Option.some.inj hg85).symm rfl) (congrArg boo (Option.some.inj hg127)))) ?_
              refine WC.take (i := 32) #[true, true, true, true, true, true, true, true, true, true, true, true, true, true, true, true, true, true, true, true, true, true, true, true, true, true, true, true, true, true, true, true, true] rfl (by kernel_rfl) (by kernel_rfl) (by kernel_rfl) rfl (fun _ _ => (R.as (v := (boo b133)) rfl)) ?_
              refine WC.done ⟨H254, (((((hle235.trans hle239).trans hle243).trans hle247).trans hle251).trans hle255), S.drop _ (.cons_cons _ (.cons_cons _ .slnil))⟩ (by kernel_rfl) ?_
              have S3 := S
              replace S3 : St w0 H0 _ H254 [.box b3 26 [vp_f0, vp_f1, vp_f2, (str p_f.fReason), vp_f4, (str p_f.fBody), (int p_f.fRequested), (int p_f.fReceived)], .box b1 26 [vp_e0, vp_e1, vp_e2, (str p_e.fReason), vp_e4, (str p_e.fBody), (int p_e.fRequested), (int p_e.fReceived)]] := S3
              replace S3 : St w0 H0 _ H254 [] := S3.drop _ (.cons _ (.cons _ .slnil))
              exact ⟨H254, rfl, S3⟩
          · replace hg59 := condF hg59 hb145
            replace hg85 := condF hg85 (Option.some.inj hg59).symm
            replace hg127 := condF hg127 (Option.some.inj hg85).symm
            refine WC.take (i := 0) #[true, false, false, false, false, false, false, false, false, false, false, false, false, false, false, false, false, false, false, false, false, false, false, false, false, false, false, false, false, false, false, false, false] rfl (by kernel_rfl) (by kernel_rfl) (by kernel_rfl) rfl (fun w hw => by obtain ⟨_, hq, S⟩ := hw; exact (R.loadBN (i := 1) (vs := [vp_e0, vp_e1, vp_e2, (str p_e.fReason), vp_e4, (str p_e.fBody), (int p_e.fRequested), (int p_e.fReceived)]) S rfl rfl lay26 rfl rfl)) ?_
            refine WC.take (i := 2) #[true, false, true, false, false, false, false, false, false, false, false, false, false, false, false, false, false, false, false, false, false, false, false, false, false, false, false, false, false, false, false, false, false] rfl (by kernel_rfl) (by kernel_rfl) (by kernel_rfl) rfl (fun w hw => by obtain ⟨_, hq, S⟩ := hw; exact (R.loadBN (i := 1) (vs := [vp_e0, vp_e1, vp_e2, (str p_e.fReason), vp_e4, (str p_e.fBody), (int p_e.fRequested), (int p_e.fReceived)]) S rfl rfl lay26 rfl rfl)) ?_
            refine WC.next (rs := [1]) ⟨H18, (Hp.le.refl _), S.drop _ (.cons_cons _ (.cons_cons _ .slnil))⟩ (by kernel_rfl) (List.cons_ne_nil _ _) (all1 ?_)
            refine Nxt.mk (o := _) #[true, true, true, false, false, false, false, false, false, false, false, false, false, false, false, false, false, false, false, false, false, false, false, false, false, false, false, false, false, false, false, false, false] rfl rfl ?_
            refine W.call S rfl (entry_Size_ok S.holds (hG.post S.post) p_e Rp_e0 Rp_e1 Rp_e2 Rp_e4 hr22) ?_
            rintro v256 w257 H258 hle259 S rfl
            have Rp_e0 := Sl.mono Rp_e0 hle259
            have Rp_e1 := Sl.mono Rp_e1 hle259
            have Rp_e2 := Sl.mono Rp_e2 hle259
            have Rp_e4 := Sl.mono Rp_e4 hle259
            have Rp_f0 := Sl.mono Rp_f0 hle259
            have Rp_f1 := Sl.mono Rp_f1 hle259
            have Rp_f2 := Sl.mono Rp_f2 hle259
            have Rp_f4 := Sl.mono Rp_f4 hle259
            refine WL.nil ?_
            refine WC.next (rs := [3]) ⟨H258, hle259, S.drop _ (.cons_cons _ (.cons_cons _ .slnil))⟩ (by kernel_rfl) (List.cons_ne_nil _ _) (all1 ?_)
            refine Nxt.mk (o := _) #[true, true, true, true, false, false, false, false, false, false, false, false, false, false, false, false, false, false, false, false, false, false, false, false, false, false, false, false, false, false, false, false, false] rfl rfl ?_
            refine W.call S rfl (ref26_Size_ok S.holds (hG.post S.post) p_e Rp_e0 Rp_e1 Rp_e2 Rp_e4 hr27) ?_
            rintro v260 w261 H262 hle263 S rfl
            have Rp_e0 := Sl.mono Rp_e0 hle263
            have Rp_e1 := Sl.mono Rp_e1 hle263
            have Rp_e2 := Sl.mono Rp_e2 hle263
            have Rp_e4 := Sl.mono Rp_e4 hle263
            have Rp_f0 := Sl.mono Rp_f0 hle263
            have Rp_f1 := Sl.mono Rp_f1 hle263
            have Rp_f2 := Sl.mono Rp_f2 hle263
            have Rp_f4 := Sl.mono Rp_f4 hle263
            refine WL.nil ?_
            refine WC.take (i := 4) #[true, true, true, true, true, false, false, false, false, false, false, false, false, false, false, false, false, false, false, false, false, false, false, false, false, false, false, false, false, false, false, false, false] rfl (by kernel_rfl) (by kernel_rfl) (by kernel_rfl) rfl (fun _ _ => (R.eql rfl rfl)) ?_
            refine WC.take (i := 5) #[true, true, true, true, true, true, false, false, false, false, false, false, false, false, false, false, false, false, false, false, false, false, false, false, false, false, false, false, false, false, false, false, false] rfl (by kernel_rfl) (by kernel_rfl) (by kernel_rfl) rfl (fun _ _ => (R.mv (v := (boo (r22 == r27))) rfl)) ?_
            refine WC.takeY (i := 6) #[true, true, true, true, true, true, true, false, false, false, false, false, false, false, false, false, false, false, false, false, false, false, false, false, false, false, false, false, false, false, false, false, false] rfl rfl rfl hb144 (by kernel_rfl) (by kernel_rfl) (by kernel_rfl) rfl (fun w hw => by obtain ⟨_, hq, S⟩ := hw; exact (R.loadBN (i := 1) (vs := [vp_e0, vp_e1, vp_e2, (str p_e.fReason), vp_e4, (str p_e.fBody), (int p_e.fRequested), (int p_e.fReceived)]) S rfl rfl lay26 rfl rfl)) ?_
            refine WC.takeY (i := 7) #[true, true, true, true, true, true, true, true, false, false, false, false, false, false, false, false, false, false, false, false, false, false, false, false, false, false, false, false, false, false, false, false, false] rfl rfl rfl hb144 (by kernel_rfl) (by kernel_rfl) (by kernel_rfl) rfl (fun _ _ => (R.mv (v := (int p_now)) rfl)) ?_
            refine WC.takeY (i := 9) #[true, true, true, true, true, true, true, true, false, true, false, false, false, false, false, false, false, false, false, false, false, false, false, false, false, false, false, false, false, false, false, false, false] rfl rfl rfl hb144 (by kernel_rfl) (by kernel_rfl) (by kernel_rfl) rfl (fun w hw => by obtain ⟨_, hq, S⟩ := hw; exact (R.loadBN (i := 1) (vs := [vp_e0, vp_e1, vp_e2, (str p_e.fReason), vp_e4, (str p_e.fBody), (int p_e.fRequested), (int p_e.fReceived)]) S rfl rfl lay26 rfl rfl)) ?_
            refine WC.takeY (i := 10) #[true, true, true, true, true, true, true, true, false, true, true, false, false, false, false, false, false, false, false, false, false, false, false, false, false, false, false, false, false, false, false, false, false] rfl rfl rfl hb144 (by kernel_rfl) (by kernel_rfl) (by kernel_rfl) rfl (fun _ _ => (R.mv (v := (int p_now)) rfl)) ?_
            refine WC.next (rs := [8]) ⟨H262, (hle259.trans hle263), S.drop _ (.cons_cons _ (.cons_cons _ .slnil))⟩ (by kernel_rfl) (List.cons_ne_nil _ _) (all1 ?_)
            refine Nxt.mk (o := _) #[true, true, true, true, true, true, true, true, true, true, true, false, false, false, false, false, false, false, false, false, false, false, false, false, false, false, false, false, false, false, false, false, false] rfl rfl ?_
            refine WL.gyes rfl rfl hb144 ?_
            refine W.call S rfl (entry_Age_ok S.holds (hG.post S.post) p_e p_now Rp_e0 Rp_e1 Rp_e2 Rp_e4 hr45) ?_
            rintro v264 w265 H266 hle267 S rfl
            have Rp_e0 := Sl.mono Rp_e0 hle267
            have Rp_e1 := Sl.mono Rp_e1 hle267
            have Rp_e2 := Sl.mono Rp_e2 hle267
            have Rp_e4 := Sl.mono Rp_e4 hle267
            have Rp_f0 := Sl.mono Rp_f0 hle267
            have Rp_f1 := Sl.mono Rp_f1 hle267
            have Rp_f2 := Sl.mono Rp_f2 hle267
            have Rp_f4 := Sl.mono Rp_f4 hle267
            refine WL.nil ?_
            refine WC.next (rs := [11]) ⟨H266, ((hle259.trans hle263).trans hle267), S.drop _ (.cons_cons _ (.cons_cons _ .slnil))⟩ (by kernel_rfl) (List.cons_ne_nil _ _) (all1 ?_)
            refine Nxt.mk (o := _) #[true, true, true, true, true, true, true, true, true, true, true, true, false, false, false, false, false, false, false, false, false, false, false, false, false, false, false, false, false, false, false, false, false] rfl rfl ?_
            refine WL.gyes rfl rfl hb144 ?_
            refine W.call S rfl (ref26_Age_ok S.holds (hG.post S.post) p_e p_now Rp_e0 Rp_e1 Rp_e2 Rp_e4 hr50) ?_
            rintro v268 w269 H270 hle271 S rfl
            have Rp_e0 := Sl.mono Rp_e0 hle271
            have Rp_e1 := Sl.mono Rp_e1 hle271
            have Rp_e2 := Sl.mono Rp_e2 hle271
            have Rp_e4 := Sl.mono Rp_e4 hle271
            have Rp_f0 := Sl.mono Rp_f0 hle271
            have Rp_f1 := Sl.mono Rp_f1 hle271
            have Rp_f2 := Sl.mono Rp_f2 hle271
            have Rp_f4 := Sl.mono Rp_f4 hle271
            refine WL.nil ?_
            refine WC.takeY (i := 12) #[true, true, true, true, true, true, true, true, true, true, true, true, true, false, false, false, false, false, false, false, false, false, false, false, false, false, false, false, false, false, false, false, false] rfl rfl rfl hb144 (by kernel_rfl) (by kernel_rfl) (by kernel_rfl) rfl (fun _ _ => (R.eql rfl rfl)) ?_
            refine WC.take (i := 13) (v := (boo b44)) #[true, true, true, true, true, true, true, true, true, true, true, true, true, true, false, false, false, false, false, false, false, false, false, false, false, false, false, false, false, false, false, false, false] rfl (by kernel_rfl) (by kernel_rfl) (by kernel_rfl) rfl (fun _ _ => (R.ofEq (R.pickT rfl hb144 rfl) (congrArg boo (Option.some.inj hg33)))) ?_
            refine WC.take (i := 14) #[true, true, true, true, true, true, true, true, true, true, true, true, true, true, true, false, false, false, false, false, false, false, false, false, false, false, false, false, false, false, false, false, false] rfl (by kernel_rfl) (by kernel_rfl) (by kernel_rfl) rfl (fun _ _ => (R.mv (v := (boo b44)) rfl)) ?_
            refine WC.takeN (i := 15) #[true, true, true, true, true, true, true, true, true, true, true, true, true, true, true, true, false, false, false, false, false, false, false, false, false, false, false, false, false, false, false, false, false] rfl rfl rfl hb145 (by kernel_rfl) (by kernel_rfl) (by kernel_rfl) rfl ?_
            refine WC.takeN (i := 16) #[true, true, true, true, true, true, true, true, true, true, true, true, true, true, true, true, true, false, false, false, false, false, false, false, false, false, false, false, false, false, false, false, false] rfl rfl rfl hb145 (by kernel_rfl) (by kernel_rfl) (by kernel_rfl) rfl ?_
            refine WC.takeN (i := 17) #[true, true, true, true, true, true, true, true, true, true, true, true, true, true, true, true, true, true, false, false, false, false, false, false, false, false, false, false, false, false, false, false, false] rfl rfl rfl hb145 (by kernel_rfl) (by kernel_rfl) (by kernel_rfl) rfl ?_
            refine WC.takeN (i := 18) #[true, true, true, true, true, true, true, true, true, true, true, true, true, true, true, true, true, true, true, false, false, false, false, false, false, false, false, false, false, false, false, false, false] rfl rfl rfl hb145 (by kernel_rfl) (by kernel_rfl) (by kernel_rfl) rfl ?_
            refine WC.takeN (i := 19) #[true, true, true, true, true, true, true, true, true, true, true, true, true, true, true, true, true, true, true, true, false, false, false, false, false, false, false, false, false, false, false, false, false] rfl rfl rfl hb145 (by kernel_rfl) (by kernel_rfl) (by kernel_rfl) rfl ?_
            refine WC.takeN (i := 20) #[true, true, true, true, true, true, true, true, true, true, true, true, true, true, true, true, true, true, true, true, true, false, false, false, false, false, false, false, false, false, false, false, false] rfl rfl rfl hb145 (by kernel_rfl) (by kernel_rfl) (by kernel_rfl) rfl ?_
            refine WC.takeN (i := 21) #[true, true, true, true, true, true, true, true, true, true, true, true, true, true, true, true, true, true, true, true, true, true, false, false, false, false, false, false, false, false, false, false, false] rfl rfl rfl hb145 (by kernel_rfl) (by kernel_rfl) (by kernel_rfl) rfl ?_
            refine WC.take (i := 22) (v := (boo b70)) #[true, true, true, true, true, true, true, true, true, true, true, true, true, true, true, true, true, true, true, true, true, true, true, false, false, false, false, false, false, false, false, false, false] rfl (by kernel_rfl) (by kernel_rfl) (by kernel_rfl) rfl (fun _ _ => (R.ofEq (R.pickF rfl hb145 rfl) (congrArg boo (Option.some.inj hg59)))) ?_
            refine WC.take (i := 23) #[true, true, true, true, true, true, true, true, true, true, true, true, true, true, true, true, true, true, true, true, true, true, true, true, false, false, false, false, false, false, false, false, false] rfl (by kernel_rfl) (by kernel_rfl) (by kernel_rfl) rfl (fun _ _ => (R.mv (v := (boo b70)) rfl)) ?_
            refine WC.takeN (i := 24) #[true, true, true, true, true, true, true, true, true, true, true, true, true, true, true, true, true, true, true, true, true, true, true, true, true, false, false, false, false, false, false, false, false] rfl rfl rfl (Option.some.inj hg59).symm (by kernel_rfl) (by kernel_rfl) (by kernel_rfl) rfl ?_
            refine WC.takeN (i := 25) #[true, true, true, true, true, true, true, true, true, true, true, true, true, true, true, true, true, true, true, true, true, true, true, true, true, true, false, false, false, false, false, false, false] rfl rfl rfl (Option.some.inj hg59).symm (by kernel_rfl) (by kernel_rfl) (by kernel_rfl) rfl ?_
            refine WC.takeN (i := 26) #[true, true, true, true, true, true, true, true, true, true, true, true, true, true, true, true, true, true, true, true, true, true, true, true, true, true, true, false, false, false, false, false, false] rfl rfl rfl (Option.some.inj hg59).symm (by kernel_rfl) (by kernel_rfl) (by kernel_rfl) rfl ?_
            refine WC.takeN (i := 27) #[true, true, true, true, true, true, true, true, true, true, true, true, true, true, true, true, true, true, true, true, true, true, true, true, true, true, true, true, false, false, false, false, false] rfl rfl rfl (Option.some.inj hg59).symm (by kernel_rfl) (by kernel_rfl) (by kernel_rfl) rfl ?_
            refine WC.take (i := 28) (v := (boo b104)) #[true, true, true, true, true, true, true, true, true, true, true, true, true, true, true, true, true, true, true, true, true, true, true, true, true, true, true, true, true, false, false, false, false] rfl (by kernel_rfl) (by kernel_rfl) (by kernel_rfl) rfl (fun _ _ => (R.ofEq (R.pickF rfl (Option.some.inj hg59).symm rfl) (congrArg boo (Option.some.inj hg85)))) ?_
            refine WC.take (i := 29) #[true, true, true, true, true, true, true, true, true, true, true, true, true, true, true, true, true, true, true, true, true, true, true, true, true, true, true, true, true, true, false, false, false] rfl (by kernel_rfl) (by kernel_rfl) (by kernel_rfl) rfl (fun _ _ => (R.mv (v := (boo b104)) rfl)) ?_
            refine WC.takeN (i := 30) #[true, true, true, true, true, true, true, true, true, true, true, true, true, true, true, true, true, true, true, true, true, true, true, true, true, true, true, true, true, true, true, false, false] rfl rfl rfl (Option.some.inj hg85).symm (by kernel_rfl) (by kernel_rfl) (by kernel_rfl) rfl ?_
            refine WC.take (i := 31) (v := (boo b133)) #[true, true, true, true, true, true, true, true, true, true, true, true, true, true, true, true, true, true, true, true, true, true, true, true, true, true, true, true, true, true, true, true, false] rfl (by kernel_rfl) (by kernel_rfl) (by kernel_rfl) rfl (fun _ _ => (R.ofEq (R.pickF rfl (Option.some.inj hg85).symm rfl) (congrArg boo (Option.some.inj hg127)))) ?_
            refine WC.take (i := 32) #[true, true, true, true, true, true, true, true, true, true, true, true, true, true, true, true, true, true, true, true, true, true, true, true, true, true, true, true, true, true, true, true, true] rfl (by kernel_rfl) (by kernel_rfl) (by kernel_rfl) rfl (fun _ _ => (R.as (v := (boo b133)) rfl)) ?_
            refine WC.done ⟨H270, (((hle259.trans hle263).trans hle267).trans hle271), S.drop _ (.cons_cons _ (.cons_cons _ .slnil))⟩ (by kernel_rfl) ?_
            have S3 := S
            replace S3 : St w0 H0 _ H270 [.box b3 26 [vp_f0, vp_f1, vp_f2, (str p_f.fReason), vp_f4, (str p_f.fBody), (int p_f.fRequested), (int p_f.fReceived)], .box b1 26 [vp_e0, vp_e1, vp_e2, (str p_e.fReason), vp_e4, (str p_e.fBody), (int p_e.fRequested), (int p_e.fReceived)]] := S3
            replace S3 : St w0 H0 _ H270 [] := S3.drop _ (.cons _ (.cons _ .slnil))
            exact ⟨H270, rfl, S3⟩
        · replace hg33 := condF hg33 hb144
          replace hg59 := condF hg59 (Option.some.inj hg33).symm
          replace hg85 := condF hg85 (Option.some.inj hg59).symm
          replace hg127 := condF hg127 (Option.some.inj hg85).symm
          refine WC.take (i := 0) #[true, false, false, false, false, false, false, false, false, false, false, false, false, false, false, false, false, false, false, false, false, false, false, false, false, false, false, false, false, false, false, false, false] rfl (by kernel_rfl) (by kernel_rfl) (by kernel_rfl) rfl (fun w hw => by obtain ⟨_, hq, S⟩ := hw; exact (R.loadBN (i := 1) (vs := [vp_e0, vp_e1, vp_e2, (str p_e.fReason), vp_e4, (str p_e.fBody), (int p_e.fRequested), (int p_e.fReceived)]) S rfl rfl lay26 rfl rfl)) ?_
          refine WC.take (i := 2) #[true, false, true, false, false, false, false, false, false, false, false, false, false, false, false, false, false, false, false, false, false, false, false, false, false, false, false, false, false, false, false, false, false] rfl (by kernel_rfl) (by kernel_rfl) (by kernel_rfl) rfl (fun w hw => by obtain ⟨_, hq, S⟩ := hw; exact (R.loadBN (i := 1) (vs := [vp_e0, vp_e1, vp_e2, (str p_e.fReason), vp_e4, (str p_e.fBody), (int p_e.fRequested), (int p_e.fReceived)]) S rfl rfl lay26 rfl rfl)) ?_
          refine WC.next (rs := [1]) ⟨H18, (Hp.le.refl _), S.drop _ (.cons_cons _ (.cons_cons _ .slnil))⟩ (by kernel_rfl) (List.cons_ne_nil _ _) (all1 ?_)
          refine Nxt.mk (o := _) #[true, true, true, false, false, false, false, false, false, false, false, false, false, false, false, false, false, false, false, false, false, false, false, false, false, false, false, false, false, false, false, false, false] rfl rfl ?_
          refine W.call S rfl (entry_Size_ok S.holds (hG.post S.post) p_e Rp_e0 Rp_e1 Rp_e2 Rp_e4 hr22) ?_
          rintro v272 w273 H274 hle275 S rfl
          have Rp_e0 := Sl.mono Rp_e0 hle275
          have Rp_e1 := Sl.mono Rp_e1 hle275
          have Rp_e2 := Sl.mono Rp_e2 hle275
          have Rp_e4 := Sl.mono Rp_e4 hle275
          have Rp_f0 := Sl.mono Rp_f0 hle275
          have Rp_f1 := Sl.mono Rp_f1 hle275
          have Rp_f2 := Sl.mono Rp_f2 hle275
          have Rp_f4 := Sl.mono Rp_f4 hle275
          refine WL.nil ?_
          refine WC.next (rs := [3]) ⟨H274, hle275, S.drop _ (.cons_cons _ (.cons_cons _ .slnil))⟩ (by kernel_rfl) (List.cons_ne_nil _ _) (all1 ?_)
          refine Nxt.mk (o := _) #[true, true, true, true, false, false, false, false, false, false, false, false, false, false, false, false, false, false, false, false, false, false, false, false, false, false, false, false, false, false, false, false, false] rfl rfl ?_
          refine W.call S rfl (ref26_Size_ok S.holds (hG.post S.post) p_e Rp_e0 Rp_e1 Rp_e2 Rp_e4 hr27) ?_
          rintro v276 w277 H278 hle279 S rfl
          have Rp_e0 := Sl.mono Rp_e0 hle279
          have Rp_e1 := Sl.mono Rp_e1 hle279
          have Rp_e2 := Sl.mono Rp_e2 hle279
          have Rp_e4 := Sl.mono Rp_e4 hle279
          have Rp_f0 := Sl.mono Rp_f0 hle279
          have Rp_f1 := Sl.mono Rp_f1 hle279
          have Rp_f2 := Sl.mono Rp_f2 hle279
          have Rp_f4 := Sl.mono Rp_f4 hle279
          refine WL.nil ?_
          refine WC.take (i := 4) #[true, true, true, true, true, false, false, false, false, false, false, false, false, false, false, false, false, false, false, false, false, false, false, false, false, false, false, false, false, false, false, false, false] rfl (by kernel_rfl) (by kernel_rfl) (by kernel_rfl) rfl (fun _ _ => (R.eql rfl rfl)) ?_
          refine WC.take (i := 5) #[true, true, true, true, true, true, false, false, false, false, false, false, false, false, false, false, false, false, false, false, false, false, false, false, false, false, false, false, false, false, false, false, false] rfl (by kernel_rfl) (by kernel_rfl) (by kernel_rfl) rfl (fun _ _ => (R.mv (v := (boo (r22 == r27))) rfl)) ?_
          refine WC.takeN (i := 6) #[true, true, true, true, true, true, true, false, false, false, false, false, false, false, false, false, false, false, false, false, false, false, false, false, false, false, false, false, false, false, false, false, false] rfl rfl rfl hb144 (by kernel_rfl) (by kernel_rfl) (by kernel_rfl) rfl ?_
          refine WC.takeN (i := 7) #[true, true, true, true, true, true, true, true, false, false, false, false, false, false, false, false, false, false, false, false, false, false, false, false, false, false, false, false, false, false, false, false, false] rfl rfl rfl hb144 (by kernel_rfl) (by kernel_rfl) (by kernel_rfl) rfl ?_
          refine WC.takeN (i := 8) #[true, true, true, true, true, true, true, true, true, false, false, false, false, false, false, false, false, false, false, false, false, false, false, false, false, false, false, false, false, false, false, false, false] rfl rfl rfl hb144 (by kernel_rfl) (by kernel_rfl) (by kernel_rfl) rfl ?_
          refine WC.takeN (i := 9) #[true, true, true, true, true, true, true, true, true, true, false, false, false, false, false, false, false, false, false, false, false, false, false, false, false, false, false, false, false, false, false, false, false] rfl rfl rfl hb144 (by kernel_rfl) (by kernel_rfl) (by kernel_rfl) rfl ?_
          refine WC.takeN (i := 10) #[true, true, true, true, true, true, true, true, true, true, true, false, false, false, false, false, false, false, false, false, false, false, false, false, false, false, false, false, false, false, false, false, false] rfl rfl rfl hb144 (by kernel_rfl) (by kernel_rfl) (by kernel_rfl) rfl ?_
          refine WC.takeN (i := 11) #[true, true, true, true, true, true, true, true, true, true, true, true, false, false, false, false, false, false, false, false, false, false, false, false, false, false, false, false, false, false, false, false, false] rfl rfl rfl hb144 (by kernel_rfl) (by kernel_rfl) (by kernel_rfl) rfl ?_
          refine WC.takeN (i := 12) #[true, true, true, true, true, true, true, true, true, true, true, true, true, false, false, false, false, false, false, false, false, false, false, false, false, false, false, false, false, false, false, false, false] rfl rfl rfl hb144 (by kernel_rfl) (by kernel_rfl) (by kernel_rfl) rfl ?_
          refine WC.take (i := 13) (v := (boo b44)) #[true, true, true, true, true, true, true, true, true, true, true, true, true, true, false, false, false, false, false, false, false, false, false, false, false, false, false, false, false, false, false, false, false] rfl (by kernel_rfl) (by kernel_rfl) (by kernel_rfl) rfl (fun _ _ => (R.ofEq (R.pickF rfl hb144 rfl) (congrArg boo (Option.some.inj hg33)))) ?_
          refine WC.take (i := 14) #[true, true, true, true, true, true, true, true, true, true, true, true, true, true, true, false, false, false, false, false, false, false, false, false, false, false, false, false, false, false, false, false, false] rfl (by kernel_rfl) (by kernel_rfl) (by kernel_rfl) rfl (fun _ _ => (R.mv (v := (boo b44)) rfl)) ?_
          refine WC.takeN (i := 15) #[true, true, true, true, true, true, true, true, true, true, true, true, true, true, true, true, false, false, false, false, false, false, false, false, false, false, false, false, false, false, false, false, false] rfl rfl rfl (Option.some.inj hg33).symm (by kernel_rfl) (by kernel_rfl) (by kernel_rfl) rfl ?_
          refine WC.takeN (i := 16) #[true, true, true, true, true, true, true, true, true, true, true, true, true, true, true, true, true, false, false, false, false, false, false, false, false, false, false, false, false, false, false, false, false] rfl rfl rfl (Option.some.inj hg33).symm (by kernel_rfl) (by kernel_rfl) (by kernel_rfl) rfl ?_
          refine WC.takeN (i := 17) #[true, true, true, true, true, true, true, true, true, true, true, true, true, true, true, true, true, true, false, false, false, false, false, false, false, false, false, false, false, false, false, false, false] rfl rfl rfl (Option.some.inj hg33).symm (by kernel_rfl) (by kernel_rfl) (by kernel_rfl) rfl ?_
          refine WC.takeN (i := 18) #[true, true, true, true, true, true, true, true, true, true, true, true, true, true, true, true, true, true, true, false, false, false, false, false, false, false, false, false, false, false, false, false, false] rfl rfl rfl (Option.some.inj hg33).symm (by kernel_rfl) (by kernel_rfl) (by kernel_rfl) rfl ?_
          refine WC.takeN (i := 19) #[true, true, true, true, true, true, true, true, true, true, true, true, true, true, true, true, true, true, true, true, false, false, false, false, false, false, false, false, false, false, false, false, false] rfl rfl rfl (Option.some.inj hg33).symm (by kernel_rfl) (by kernel_rfl) (by kernel_rfl) rfl ?_
          refine WC.takeN (i := 20) #[true, true, true, true, true, true, true, true, true, true, true, true, true, true, true, true, true, true, true, true, true, false, false, false, false, false, false, false, false, false, false, false, false] rfl rfl rfl (Option.some.inj hg33).symm (by kernel_rfl) (by kernel_rfl) (by kernel_rfl) rfl ?_
          refine WC.takeN (i := 21) #[true, true, true, true, true, true, true, true, true, true, true, true, true, true, true, true, true, true, true, true, true, true, false, false, false, false, false, false, false, false, false, false, false] rfl rfl rfl (Option.some.inj hg33).symm (by kernel_rfl) (by kernel_rfl) (by kernel_rfl) rfl ?_
          refine WC.take (i := 22) (v := (boo b70)) #[true, true, true, true, true, true, true, true, true, true, true, true, true, true, true, true, true, true, true, true, true, true, true, false, false, false, false, false, false, false, false, false, false] rfl (by kernel_rfl) (by kernel_rfl) (by kernel_rfl) rfl (fun _ _ => (R.ofEq (R.pickF rfl (Option.some.inj hg33).symm rfl) (congrArg boo (Option.some.inj hg59)))) ?_
          refine WC.take (i := 23) #[true, true, true, true, true, true, true, true, true, true, true, true, true, true, true, true, true, true, true, true, true, true, true, true, false, false, false, false, false, false, false, false, false] rfl (by kernel_rfl) (by kernel_rfl) (by kernel_rfl) rfl (fun _ _ => (R.mv (v := (boo b70)) rfl)) ?_
          refine WC.takeN (i := 24) #[true, true, true, true, true, true, true, true, true, true, true, true, true, true, true, true, true, true, true, true, true, true, true, true, true, false, false, false, false, false, false, false, false] rfl rfl rfl (Option.some.inj hg59).symm (by kernel_rfl) (by kernel_rfl) (by kernel_rfl) rfl ?_
          refine WC.takeN (i := 25) #[true, true, true, true, true, true, true, true, true, true, true, true, true, true, true, true, true, true, true, true, true, true, true, true, true, true, false, false, false, false, false, false, false] rfl rfl rfl (Option.some.inj hg59).symm (by kernel_rfl) (by kernel_rfl) (by kernel_rfl) rfl ?_
          refine WC.takeN (i := 26) #[true, true, true, true, true, true, true, true, true, true, true, true, true, true, true, true, true, true, true, true, true, true, true, true, true, true, true, false, false, false, false, false, false] rfl rfl rfl (Option.some.inj hg59).symm (by kernel_rfl) (by kernel_rfl) (by kernel_rfl) rfl ?_
          refine WC.takeN (i := 27) #[true, true, true, true, true, true, true, true, true, true, true, true, true, true, true, true, true, true, true, true, true, true, true, true, true, true, true, true, false, false, false, false, false] rfl rfl rfl (Option.some.inj hg59).symm (by kernel_rfl) (by kernel_rfl) (by kernel_rfl) rfl ?_
          refine WC.take (i := 28) (v := (boo b104)) #[true, true, true, true, true, true, true, true, true, true, true, true, true, true, true, true, true, true, true, true, true, true, true, true, true, true, true, true, true, false, false, false, false] rfl (by kernel_rfl) (by kernel_rfl) (by kernel_rfl) rfl (fun _ _ => (R.ofEq (R.pickF rfl (Option.some.inj hg59).symm rfl) (congrArg boo (Option.some.inj hg85)))) ?_
          refine WC.take (i := 29) #[true, true, true, true, true, true, true, true, true, true, true, true, true, true, true, true, true, true, true, true, true, true, true, true, true, true, true, true, true, true, false, false, false] rfl (by kernel_rfl) (by kernel_rfl) (by kernel_rfl) rfl (fun _ _ => (R.mv (v := (boo b104)) rfl)) ?_
          refine WC.takeN (i := 30) #[true, true, true, true, true, true, true, true, true, true, true, true, true, true, true, true, true, true, true, true, true, true, true, true, true, true, true, true, true, true, true, false, false] rfl rfl rfl (Option.some.inj hg85).symm (by kernel_rfl) (by kernel_rfl) (by kernel_rfl) rfl ?_
          refine WC.take (i := 31) (v := (boo b133)) #[true, true, true, true, true, true, true, true, true, true, true, true, true, true, true, true, true, true, true, true, true, true, true, true, true, true, true, true, true, true, true, true, false] rfl (by kernel_rfl) (by kernel_rfl) (by kernel_rfl) rfl (fun _ _ => (R.ofEq (R.pickF rfl (Option.some.inj hg85).symm rfl) (congrArg boo (Option.some.inj hg127)))) ?_
          refine WC.take (i := 32) #[true, true, true, true, true, true, true, true, true, true, true, true, true, true, true, true, true, true, true, true, true, true, true, true, true, true, true, true, true, true, true, true, true] rfl (by kernel_rfl) (by kernel_rfl) (by kernel_rfl) rfl (fun _ _ => (R.as (v := (boo b133)) rfl)) ?_
          refine WC.done ⟨H278, (hle275.trans hle279), S.drop _ (.cons_cons _ (.cons_cons _ .slnil))⟩ (by kernel_rfl) ?_
          have S3 := S
          replace S3 : St w0 H0 _ H278 [.box b3 26 [vp_f0, vp_f1, vp_f2, (str p_f.fReason), vp_f4, (str p_f.fBody), (int p_f.fRequested), (int p_f.fReceived)], .box b1 26 [vp_e0, vp_e1, vp_e2, (str p_e.fReason), vp_e4, (str p_e.fBody), (int p_e.fRequested), (int p_e.fReceived)]] := S3
          replace S3 : St w0 H0 _ H278 [] := S3.drop _ (.cons _ (.cons _ .slnil))
          exact ⟨H278, rfl, S3⟩
      · rintro f w ⟨H142, h143, S⟩
        obtain rfl := Option.some.inj h
        refine WP.ret (Out.one rfl S h143 ?_)
        exact rfl
end Go.Proofs
