/- The engine, part 9: regions that draw their order and write. -/
import Derived.Test.YtmeemcjmhbgbdaaGreatDoorEng8
namespace Go.Eng
open Go
theorem Oper.wp_monoQ {P : Program} {o : Oper} {a : Act} {w : World} {K K' : Act → World → Prop} {Q Q' : Exit → Act → World → Prop} (hk : ∀ a w, K a w → K' a w) (hq : ∀ e a w, e ≠ .normal → Q e a w → Q' e a w) (h : o.wp P a w K Q) : o.wp P a w K' Q' := by
  unfold Oper.wp at *
  generalize (execOp a.eval o).run P w = r at *
  cases r with
  | ok n w' =>
    cases n with
    | enter g args =>
      exact Calls.mono h (fun e w'' he => by
        cases e with
        | returned v => exact hk _ _ he
        | panicked c => exact hq _ _ _ (by simp) he
        | outgrown => obtain ⟨a0, w0, h0⟩ := he; exact ⟨a0, w0, hq _ _ _ (by simp) h0⟩)
    | row r args => exact Rows.mono h (fun v w'' he => hk _ _ he)
    | value v => exact hk _ _ h
    | skip => exact hk _ _ h
    | defer d => exact hk _ _ h
    | _ => exact h
  | halt x w' =>
    cases x with
    | panic v => exact hq _ _ _ (by simp) h
    | _ => exact h
theorem wpOp_monoQ {P : Program} {ops : Array Oper} {i : Nat} {a : Act} {w : World} {K K' : Act → World → Prop} {Q Q' : Exit → Act → World → Prop} (hk : ∀ a w, K a w → K' a w) (hq : ∀ e a w, Q e a w → Q' e a w) (h : wpOp P ops Q i K a w) : wpOp P ops Q' i K' a w := by
  unfold wpOp at *
  split
  · rename_i h0; simp only [h0] at h; exact hk _ _ h
  · rename_i o ho
    simp only [ho] at h
    split
    · rename_i hw
      rw [if_pos hw] at h
      rcases h with h | ⟨h1, a0, w0, h2⟩
      · exact .inl (Oper.wp_monoQ hk (fun e a w _ => hq e a w) h)
      · exact .inr ⟨h1, a0, w0, hq _ _ _ h2⟩
    · rename_i hw; rw [if_neg hw] at h; exact hk _ _ h
theorem wpAny_monoQ {P : Program} {md : Region.Mode} {ops : Array Oper} {Q Q' : Exit → Act → World → Prop} (hq : ∀ e a w, Q e a w → Q' e a w) : ∀ (n : Nat) (listed : Array Bool) (a : Act) (w : World), wpAny P md ops Q n listed a w → wpAny P md ops Q' n listed a w
  | 0, _, _, _, h => ⟨h.1, hq _ _ _ h.2⟩
  | n + 1, _, _, _, h => ⟨fun h0 => hq _ _ _ (h.1 h0), fun i hi => wpOp_monoQ (fun a w => wpAny_monoQ hq n _ a w) hq (h.2 i hi)⟩
def WA (P : Program) (N : Nat) (ops : Array Oper) (n : Nat) (listed : Array Bool) (Q : Fr → World → Prop) (f : Fr) (w : World) : Prop :=
  wpAny P .any ops (fun e a w' => ∃ f', a = act N f' ∧ e = .normal ∧ Q f' w') n listed (act N f) w
section
variable {P : Program} {N : Nat} {f : Fr} {w : World} {ops : Array Oper} {Q : Fr → World → Prop} {n : Nat} {listed : Array Bool}
theorem WP.draw {id : Nat} {Q : Exit → Fr → World → Prop} (hm : P.follows .mixedOrders = true) (m : Nat) (hn : ops.size = m) (l0 : Array Bool) (hl : Array.replicate m false = l0) (h : WA P N ops m l0 (Q .normal) f w.drew) : WP P N (.region id ops true) Q f w := by
  subst hn; subst hl
  refine wp_region_any hm (wpAny_monoQ (fun e a w ⟨f', ha, he, hq⟩ => ?_) _ _ _ _ h)
  subst he
  exact ⟨f', ha, hq⟩
theorem WA.take {i : Nat} {d : Option Nat} {op : Op} {ty : TypeId} {pos : String} {af : Array Edge} {v : Value} (listed' : Array Bool) (hi : ops[i]? = some ⟨d, op, ty, pos, af, none⟩) (hs : Region.noSelect ops = true) (hf : Region.free .any ops listed i = true)
    (hr : (Region.ready .any ops listed).contains i = true) (hl : listed.setIfInBounds i true = listed') (hrun : ∀ w, (execOp (ev N f) ⟨d, op, ty, pos, af, none⟩).run P w = .ok (.value v) w)
    (h : WA P N ops n listed' Q (updo f d v) w) : WA P N ops (n + 1) listed Q f w := by
  subst hl
  refine wpAny_take hi hs hf hr (fun c a w ⟨f', _, he, _⟩ => by cases he) (v := v) (.inl ⟨by simp [Region.wanted], fun w => ?_⟩) ?_
  · rw [eval_act']; exact hrun w
  · show wpAny P .any ops _ n _ ((act N f).put d v) w
    rw [put_act]; exact h
theorem WA.one {i : Nat} {o : Oper} (listed' : Array Bool) (hi : ops[i]? = some o) (hr : Region.ready .any ops listed = [i]) (hl : listed.setIfInBounds i true = listed')
    (h : WL P N ops [o] (fun f' w' => WA P N ops n listed' Q f' w') f w) : WA P N ops (n + 1) listed Q f w := by
  subst hl
  refine wpAny_all hr (by simp) fun j hj => ?_
  rcases List.mem_singleton.1 hj with rfl
  unfold wpOp
  rw [hi]
  have h' : wpList P ops (fun e a w' => ∃ f', a = act N f' ∧ e = .normal ∧ WA P N ops n (listed.setIfInBounds j true) Q f' w') [o] (act N f) w := h.out
  unfold wpList at h'
  show if Region.wanted o (yielded ops (act N f).tmps) = true then _ else _
  split
  · rename_i hw
    rw [if_pos hw] at h'
    rcases h' with h' | ⟨_, a0, w0, f0, _, he, _⟩
    · refine .inl (Oper.wp_monoQ (fun a w hk => ?_) (fun e a w hne ⟨f', ha, he, _⟩ => absurd he hne) h')
      obtain ⟨f', ha, _, hq⟩ := hk
      subst ha; exact hq
    · cases he
  · rename_i hw
    rw [if_neg hw] at h'
    obtain ⟨f', ha, _, hq⟩ := h'
    rw [ha]; exact hq
theorem WA.done (hr : Region.ready .any ops listed = []) (h : Q f w) : WA P N ops n listed Q f w := wpAny_done hr ⟨f, rfl, rfl, h⟩ n
end
end Go.Eng
