/- A part of the proof of laws of the seat: written by program over the translation. -/
import Derived.Test.YtmeemcjmhbgbdaaGreatDoorGenF9
namespace Go.Proofs
open Go.Eng Go.Eng.Pure
set_option linter.unusedVariables false
set_option maxRecDepth 10000 in
set_option maxHeartbeats 4000000 in
theorem law24_StorableDecides_ok {w0 : World} {H0 : Hp} (hw : Holds w0 H0) (p_q : GRequest) (p_r : GResponse) {vp_q3 : Value} {vp_r3 : Value} (Rp_q3 : Sl (α := GField) H0 vp_q3 p_q.fFields) (Rp_r3 : Sl (α := GField) H0 vp_r3 p_r.fFields) {r : Bool} (h : law24_StorableDecides p_q p_r = some r) :
    Con Tryz.prog 3 [(agg [(str p_q.fMethod), (str p_q.fTarget), (int p_q.fMinor), vp_q3, (str p_q.fBody)]), (agg [(int p_r.fMinor), (int p_r.fStatus), (str p_r.fReason), vp_r3, (str p_r.fBody)])] w0 H0 (fun H' v => v = (boo r)) := by
  refine Con.mk (N := 23) Tryz.func3 rfl rfl (by kernel_rfl) rfl ?_
  have S := St.start hw
  refine WP.seq ?_
  refine WP.region ?_
  refine W.box [(str p_q.fMethod), (str p_q.fTarget), (int p_q.fMinor), vp_q3, (str p_q.fBody)] S rfl rfl ?_
  intro b1 w2 S
  refine W.box [(int p_r.fMinor), (int p_r.fStatus), (str p_r.fReason), vp_r3, (str p_r.fBody)] S rfl rfl ?_
  intro b3 w4 S
  refine WL.valw (R.as (v := (boo false)) rfl) ?_
  refine WL.nil ?_
  refine WP.seq ?_
  refine WP.seq ?_
  refine WP.region ?_
  refine WL.valw (R.loadBN (i := 1) (vs := [(str p_q.fMethod), (str p_q.fTarget), (int p_q.fMinor), vp_q3, (str p_q.fBody)]) S rfl rfl lay24 rfl rfl) ?_
  obtain ⟨r5, hr5, h⟩ := bindE h
  refine W.call S rfl (keep_Request_ok S.holds p_q Rp_q3 hr5) ?_
  rintro v6 w7 H8 hle9 S rfl
  have Rp_q3 := Sl.mono Rp_q3 hle9
  have Rp_r3 := Sl.mono Rp_r3 hle9
  refine WL.valw (R.not rfl) ?_
  refine WL.valw (R.mv (v := (boo (!r5))) rfl) ?_
  obtain ⟨b17, hg11, h⟩ := bindE h
  refine WL.grpw 4 [9, 10, 11] 12 (boo b17) (fun w => ∃ H' : Hp, H8.le H' ∧ St w0 H0 w H' [.box b3 26 [(int p_r.fMinor), (int p_r.fStatus), (str p_r.fReason), vp_r3, (str p_r.fBody)], .box b1 24 [(str p_q.fMethod), (str p_q.fTarget), (int p_q.fMinor), vp_q3, (str p_q.fBody)]]) ?_ ?_
  · rcases boolE (!r5) with hb10 | hb10
    · replace hg11 := condT hg11 hb10
      refine WL.gno rfl rfl hb10 ?_
      refine WL.gno rfl rfl hb10 ?_
      refine WL.gno rfl rfl hb10 ?_
      refine WL.valw (R.pickT rfl hb10 rfl) ?_
      exact WL.nil ⟨(congrArg boo (Option.some.inj hg11)), (by repeat (first | refine agree_upd rfl ?_ | refine agree_upds' rfl ?_ | exact agree_refl)), ⟨H8, (Hp.le.refl _), S⟩⟩
    · replace hg11 := condF hg11 hb10
      refine WL.gyes rfl rfl hb10 ?_
      refine WL.valw (R.loadBN (i := 0) (vs := [(int p_r.fMinor), (int p_r.fStatus), (str p_r.fReason), vp_r3, (str p_r.fBody)]) S rfl rfl lay26 rfl rfl) ?_
      refine WL.gyes rfl rfl hb10 ?_
      obtain ⟨r12, hr12, hg11⟩ := bindE hg11
      refine W.call S rfl (keep_Response_ok S.holds p_r Rp_r3 hr12) ?_
      rintro v13 w14 H15 hle16 S rfl
      have Rp_q3 := Sl.mono Rp_q3 hle16
      have Rp_r3 := Sl.mono Rp_r3 hle16
      refine WL.gyes rfl rfl hb10 ?_
      refine WL.valw (R.not rfl) ?_
      refine WL.valw (R.pickF rfl hb10 rfl) ?_
      exact WL.nil ⟨(congrArg boo (Option.some.inj hg11)), (by repeat (first | refine agree_upd rfl ?_ | refine agree_upds' rfl ?_ | exact agree_refl)), ⟨H15, hle16, S⟩⟩
  · intro us w19 ⟨H18, hle20, S⟩
    have Rp_q3 := Sl.mono Rp_q3 hle20
    have Rp_r3 := Sl.mono Rp_r3 hle20
    refine WL.nil ?_
    rcases condE h with ⟨hc21, h⟩ | ⟨hc21, h⟩
    · refine WP.condT rfl hc21 ?_
      refine WP.seq ?_
      refine WP.region ?_
      refine WL.valw (R.as (v := (boo true)) rfl) ?_
      refine WL.nil ?_
      obtain rfl := Option.some.inj h
      refine WP.ret (Out.one rfl S rfl ?_)
      exact rfl
    · refine WP.condF rfl hc21 ?_
      refine WP.skip ?_
      refine WP.seq ?_
      refine WP.quiet S (by kernel_rfl) (by kernel_rfl) ?_
      refine WQ.val (fun w hw => by obtain ⟨_, hq, S⟩ := hw; exact (R.loadBN (i := 1) (vs := [(str p_q.fMethod), (str p_q.fTarget), (int p_q.fMinor), vp_q3, (str p_q.fBody)]) S rfl rfl lay24 rfl rfl)) ?_
      refine WQ.val (fun w hw => by obtain ⟨_, hq, S⟩ := hw; exact (R.loadBN (i := 0) (vs := [(int p_r.fMinor), (int p_r.fStatus), (str p_r.fReason), vp_r3, (str p_r.fBody)]) S rfl rfl lay26 rfl rfl)) ?_
      obtain ⟨r25, hr25, h⟩ := bindE h
      refine WQ.call (v := (boo r25)) rfl (fun w H' hq S => storable_Storable_ok S.holds p_q p_r (Sl.mono Rp_q3 hq) (Sl.mono Rp_r3 hq) hr25) ?_
      refine WQ.val (fun w hw => by obtain ⟨_, hq, S⟩ := hw; exact (R.loadBN (i := 1) (vs := [(str p_q.fMethod), (str p_q.fTarget), (int p_q.fMinor), vp_q3, (str p_q.fBody)]) S rfl rfl lay24 rfl rfl)) ?_
      refine WQ.val (fun w hw => by obtain ⟨_, hq, S⟩ := hw; exact (R.loadBN (i := 0) (vs := [(int p_r.fMinor), (int p_r.fStatus), (str p_r.fReason), vp_r3, (str p_r.fBody)]) S rfl rfl lay26 rfl rfl)) ?_
      obtain ⟨r30, hr30, h⟩ := bindE h
      refine WQ.call (v := (boo r30)) rfl (fun w H' hq S => ref19_Storable_ok S.holds p_q p_r (Sl.mono Rp_q3 hq) (Sl.mono Rp_r3 hq) hr30) ?_
      refine WQ.val (fun _ _ => (R.eqlB rfl rfl Tryz.underlying4)) ?_
      refine WQ.val (fun _ _ => (R.mv (v := (boo (r25 == r30))) rfl)) ?_
      obtain ⟨b42, hg36, h⟩ := bindE h
      refine WQ.grp 2 [21] 22 (boo b42) ?_ ?_
      · rcases boolE (r25 == r30) with hb35 | hb35
        · replace hg36 := condT hg36 hb35
          refine WQ.gyes rfl rfl hb35 ?_
          obtain ⟨r37, hr37, hg36⟩ := bindE hg36
          refine WQ.call (v := (boo r37)) rfl (fun w H' hq S => law24_awake_ok S.holds  hr37) ?_
          refine WQ.val (fun _ _ => (R.pickT rfl hb35 rfl)) ?_
          exact WQ.nil ⟨(congrArg boo (Option.some.inj hg36)), (by repeat (first | refine agree_upd rfl ?_ | refine agree_upds' rfl ?_ | exact agree_refl))⟩
        · replace hg36 := condF hg36 hb35
          refine WQ.gno rfl rfl hb35 ?_
          refine WQ.val (fun _ _ => (R.pickF rfl hb35 rfl)) ?_
          exact WQ.nil ⟨(congrArg boo (Option.some.inj hg36)), (by repeat (first | refine agree_upd rfl ?_ | refine agree_upds' rfl ?_ | exact agree_refl))⟩
      · intro us
        refine WQ.val (fun _ _ => (R.as (v := (boo b42)) rfl)) ?_
        refine WQ.nil ?_
        intro w22 H23 hle24 S
        have Rp_q3 := Sl.mono Rp_q3 hle24
        have Rp_r3 := Sl.mono Rp_r3 hle24
        obtain rfl := Option.some.inj h
        refine WP.ret (Out.one rfl S rfl ?_)
        exact rfl
end Go.Proofs
