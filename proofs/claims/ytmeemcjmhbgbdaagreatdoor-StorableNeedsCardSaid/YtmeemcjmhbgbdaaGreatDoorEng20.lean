/- The engine, part 20: regions that draw their order: what only reads is taken first, in a class of worlds. -/
import Derived.Test.YtmeemcjmhbgbdaaGreatDoorEng19
namespace Go.Eng
open Go
variable {P : Program} {md : Region.Mode} {ops : Array Oper} {Q : Exit → Act → World → Prop} {C : World → Prop}
/-- 'wpAny', and every world on the way is of the class C. -/
def wpAnyC (P : Program) (md : Region.Mode) (ops : Array Oper) (C : World → Prop) (Q : Exit → Act → World → Prop) : Nat → Array Bool → Act → World → Prop
  | 0, listed, a, w => C w ∧ Region.ready md ops listed = [] ∧ Q .normal a w
  | n + 1, listed, a, w => C w ∧ (Region.ready md ops listed = [] → Q .normal a w) ∧
      ∀ i ∈ Region.ready md ops listed, wpOp P ops Q i (wpAnyC P md ops C Q n (listed.setIfInBounds i true)) a w
theorem wpAnyC.cls : ∀ {n : Nat} {listed : Array Bool} {a : Act} {w : World}, wpAnyC P md ops C Q n listed a w → C w
  | 0, _, _, _, h => h.1
  | _ + 1, _, _, _, h => h.1
theorem wpAnyC.any : ∀ {n : Nat} {listed : Array Bool} {a : Act} {w : World}, wpAnyC P md ops C Q n listed a w → wpAny P md ops Q n listed a w
  | 0, _, _, _, h => h.2
  | _ + 1, _, _, _, h => ⟨h.2.1, fun i hi => wpOp_mono (fun _ _ h => wpAnyC.any h) (h.2.2 i hi)⟩
def YieldsC (P : Program) (ops : Array Oper) (C : World → Prop) (o : Oper) (v : Value) (a : Act) : Prop :=
  (Region.wanted o (yielded ops a.tmps) = true ∧ ∀ w, C w → (execOp a.eval o).run P w = .ok (.value v) w) ∨
  (Region.wanted o (yielded ops a.tmps) = false ∧ v = undef)
theorem YieldsC.wpOp {i : Nat} {o : Oper} {v : Value} {a : Act} (hi : ops[i]? = some o) (hy : YieldsC P ops C o v a)
    {K : Act → World → Prop} {w : World} (hC : C w) (h : K (a.put o.dst v) w) : wpOp P ops Q i K a w := by
  unfold Go.wpOp
  simp only [hi]
  rcases hy with ⟨hw, hv⟩ | ⟨hw, rfl⟩
  · simp only [hw, if_true, Oper.wp, hv w hC, Oper.upon]; exact .inl h
  · simp only [hw, Bool.false_eq_true, if_false]; exact h
theorem YieldsC.of_same {o : Oper} {v : Value} {a a' : Act} (hy : YieldsC P ops C o v a) (he : execOp a'.eval o = execOp a.eval o)
    (hw : Region.wanted o (yielded ops a'.tmps) = Region.wanted o (yielded ops a.tmps)) : YieldsC P ops C o v a' := by
  unfold YieldsC at *
  rw [he, hw]
  exact hy
theorem wpOp_putC {j : Nat} {oi oj : Oper} {v : Value} (hj : ops[j]? = some oj) (hap : oi.apart ops oj = true)
    (hsi : ∀ cs b, oi.op ≠ .select cs b) (hsj : ∀ cs b, oj.op ≠ .select cs b)
    (hQ : ∀ c a w, Q (.panic c) (a.put oi.dst v) w → Q (.panic c) a w) {K : Act → World → Prop} {a : Act} {w : World}
    (hy : YieldsC P ops C oi v a) (h : wpOp P ops Q j K (a.put oi.dst v) w) :
    wpOp P ops Q j (fun a' w' => YieldsC P ops C oi v a' ∧ K (a'.put oi.dst v) w') a w := by
  obtain ⟨h1, h2, h3⟩ := Oper.apart_spec hap
  have keep : ∀ (a : Act), YieldsC P ops C oi v a → ∀ u, YieldsC P ops C oi v (a.put oj.dst u) := fun a hy u =>
    hy.of_same (execOp_put oi hsi a oj.dst u h3) (wanted_put oi a oj.dst u h3)
  have keepD : ∀ d, YieldsC P ops C oi v { a with defers := d :: a.defers } := fun d => hy.of_same rfl rfl
  unfold wpOp at *
  simp only [hj] at *
  rw [wanted_put oj a oi.dst v h1] at h
  split
  · rename_i hw
    simp only [hw, if_true] at h
    rcases h with h | ⟨hasks, hlets⟩
    case inr => exact .inr ⟨by unfold Oper.asks at *; rw [execOp_put oj hsj a oi.dst v h1] at hasks; exact hasks, hlets⟩
    refine .inl ?_
    unfold Oper.wp at *
    rw [execOp_put oj hsj a oi.dst v h1] at h
    generalize (execOp a.eval oj).run P w = r at *
    cases r with
    | ok n w' =>
      cases n <;> simp only [Oper.upon] at h ⊢
      case value u => exact ⟨keep a hy u, by rw [← Act.put_comm a v u h2]; exact h⟩
      case skip => exact ⟨keep a hy _, by rw [← Act.put_comm a v undef h2]; exact h⟩
      case defer d =>
        refine ⟨keep _ (keepD d) _, ?_⟩
        rw [← Act.put_comm _ v undef h2, ← Act.put_defers]
        exact h
      case enter f args =>
        refine Calls.mono h fun e w'' he => ?_
        cases e with
        | returned u => exact ⟨keep a hy u, by rw [← Act.put_comm a v u h2]; exact he⟩
        | panicked c => exact hQ _ _ _ he
        | outgrown => exact he
      case row row args => exact Rows.mono h fun u w'' he => ⟨keep a hy u, by rw [← Act.put_comm a v u h2]; exact he⟩
    | halt x w' =>
      cases x <;> simp only [Oper.upon] at h ⊢
      case panic u => exact hQ _ _ _ h
  · rename_i hw
    simp only [hw] at h
    exact ⟨keep a hy _, by rw [← Act.put_comm a v undef h2]; exact h⟩
theorem wpAnyC_first {i : Nat} {oi : Oper} {v : Value} (hi : ops[i]? = some oi) (hsel : ∀ (j : Nat) (o : Oper) cs b, ops[j]? = some o → o.op ≠ .select cs b)
    (hQ : ∀ c a w, Q (.panic c) (a.put oi.dst v) w → Q (.panic c) a w) :
    ∀ (fuel : Nat) (listed : Array Bool) (a : Act) (w : World),
      (∀ j oj, ops[j]? = some oj → j ≠ i → listed.getD j true = false → (∀ e ∈ oj.after, Region.binds md e = true → e.on ≠ i) → oi.apart ops oj = true) →
      i ∈ Region.ready md ops listed → YieldsC P ops C oi v a →
      wpAnyC P md ops C Q fuel (listed.setIfInBounds i true) (a.put oi.dst v) w → wpAnyC P md ops C Q (fuel + 1) listed a w := by
  intro fuel
  induction fuel with
  | zero =>
    intro listed a w _ hr hy H
    refine ⟨H.cls, fun h => (by rw [h] at hr; cases hr), fun j hj => ?_⟩
    by_cases hji : j = i
    · subst hji; exact hy.wpOp hi H.cls H
    · have := ready_mono hj hji
      rw [H.2.1] at this
      cases this
  | succ fuel ih =>
    intro listed a w hfree hr hy H
    refine ⟨H.cls, fun h => (by rw [h] at hr; cases hr), fun j hj => ?_⟩
    by_cases hji : j = i
    · subst hji; exact hy.wpOp hi H.cls H
    · have h1 := H.2.2 j (ready_mono hj hji)
      obtain ⟨hjun, oj, hoj, hall⟩ := mem_ready.1 hj
      have hnot : ∀ e ∈ oj.after, Region.binds md e = true → e.on ≠ i := fun e he hb heq => by
        have h1 := hall e he hb
        have h0 := (mem_ready.1 hr).1
        rw [heq] at h1
        rcases Nat.lt_or_ge i listed.size with h' | h'
        · simp [h'] at h0 h1; rw [h0] at h1; cases h1
        · simp [Array.getElem?_eq_none h'] at h1
      have h2 := wpOp_putC hoj (hfree j oj hoj hji hjun hnot) (fun cs b => hsel i oi cs b hi) (fun cs b => hsel j oj cs b hoj) hQ hy h1
      have hfree' : ∀ k ok, ops[k]? = some ok → k ≠ i → (listed.setIfInBounds j true).getD k true = false →
          (∀ e ∈ ok.after, Region.binds md e = true → e.on ≠ i) → oi.apart ops ok = true := fun k ok hk hki hun hno => by
        refine hfree k ok hk hki ?_ hno
        by_cases hjk : j = k
        · subst hjk; exact hjun
        · rw [getD_set_ne true hjk] at hun; exact hun
      refine wpOp_mono (fun a' w' h3 => ih (listed.setIfInBounds j true) a' w' hfree' (ready_mono hr (Ne.symm hji)) h3.1 ?_) h2
      rw [Array.setIfInBounds_comm _ _ hji]
      exact h3.2
/-- The judgement. -/
structure WC (P : Program) (N : Nat) (ops : Array Oper) (C : World → Prop) (n : Nat) (listed : Array Bool) (Q : Fr → World → Prop) (f : Fr) (w : World) : Prop where
  out : wpAnyC P .any ops C (fun e a w' => ∃ f', a = act N f' ∧ e = .normal ∧ Q f' w') n listed (act N f) w
section
variable {N : Nat} {f : Fr} {w w0 : World} {H0 H : Hp} {L : List Ent} {Q : Fr → World → Prop} {n : Nat} {listed : Array Bool}
theorem WC.take {i : Nat} {d : Option Nat} {op : Op} {ty : TypeId} {pos : String} {af : Array Edge} {v : Value} (listed' : Array Bool) (hi : ops[i]? = some ⟨d, op, ty, pos, af, none⟩) (hs : Region.noSelect ops = true) (hf : Region.free .any ops listed i = true)
    (hr : (Region.ready .any ops listed).contains i = true) (hl : listed.setIfInBounds i true = listed') (hrun : ∀ w, C w → (execOp (ev N f) ⟨d, op, ty, pos, af, none⟩).run P w = .ok (.value v) w)
    (h : WC P N ops C n listed' Q (updo f d v) w) : WC P N ops C (n + 1) listed Q f w := by
  subst hl
  refine ⟨wpAnyC_first hi (Region.noSelect_spec hs) (fun c a w ⟨f', _, he, _⟩ => by cases he) n listed _ w (Region.free_spec hi hf) (by simpa using hr) (v := v) (.inl ⟨by simp [Region.wanted], fun w hw => ?_⟩) ?_⟩
  · rw [eval_act']; exact hrun w hw
  · show wpAnyC P .any ops C _ n _ ((act N f).put d v) w
    rw [put_act]; exact h.out
theorem wpOp_of_WL {j : Nat} {o : Oper} {K : Fr → World → Prop} {Q : Fr → World → Prop} (hi : ops[j]? = some o) (h : WL P N ops [o] K f w) : wpOp P ops (fun e a w' => ∃ f', a = act N f' ∧ e = .normal ∧ Q f' w') j (fun a w' => ∃ f', a = act N f' ∧ K f' w') (act N f) w := by
  unfold wpOp
  rw [hi]
  have h' : wpList P ops (fun e a w' => ∃ f', a = act N f' ∧ e = .normal ∧ K f' w') [o] (act N f) w := h.out
  unfold wpList at h'
  show if Region.wanted o (yielded ops (act N f).tmps) = true then _ else _
  split
  · rename_i hw
    rw [if_pos hw] at h'
    rcases h' with h' | ⟨_, a0, w0, f0, _, he, _⟩
    · refine .inl (Oper.wp_monoQ (fun a w hk => ?_) (fun e a w hne ⟨f', ha, he, _⟩ => absurd he hne) h')
      obtain ⟨f', ha, _, hq⟩ := hk
      exact ⟨f', ha, hq⟩
    · cases he
  · rename_i hw
    rw [if_neg hw] at h'
    obtain ⟨f', ha, _, hq⟩ := h'
    exact ⟨f', ha, hq⟩
/-- One of the operations that may come next. -/
def Nxt (P : Program) (N : Nat) (ops : Array Oper) (C : World → Prop) (n : Nat) (listed : Array Bool) (Q : Fr → World → Prop) (f : Fr) (w : World) (i : Nat) : Prop :=
  ∃ o, ops[i]? = some o ∧ WL P N ops [o] (fun f' w' => WC P N ops C n (listed.setIfInBounds i true) Q f' w') f w
theorem WC.next {rs : List Nat} (hC : C w) (hr : Region.ready .any ops listed = rs) (hne : rs ≠ []) (h : ∀ i ∈ rs, Nxt P N ops C n listed Q f w i) : WC P N ops C (n + 1) listed Q f w := by
  subst hr
  refine ⟨hC, fun h0 => absurd h0 hne, fun i hi => ?_⟩
  obtain ⟨o, ho, hw⟩ := h i hi
  refine wpOp_mono (fun a w' ⟨f', ha, hq⟩ => ?_) (wpOp_of_WL (Q := Q) ho hw)
  subst ha; exact hq.out
theorem Nxt.mk {i : Nat} {o : Oper} (listed' : Array Bool) (hi : ops[i]? = some o) (hl : listed.setIfInBounds i true = listed') (h : WL P N ops [o] (fun f' w' => WC P N ops C n listed' Q f' w') f w) : Nxt P N ops C n listed Q f w i := by
  subst hl; exact ⟨o, hi, h⟩
theorem WC.done (hC : C w) (hr : Region.ready .any ops listed = []) (h : Q f w) : WC P N ops C n listed Q f w := by
  refine ⟨?_⟩
  cases n with
  | zero => exact ⟨hC, hr, f, rfl, rfl, h⟩
  | succ n => exact ⟨hC, fun _ => ⟨f, rfl, rfl, h⟩, by rw [hr]; simp⟩
end
end Go.Eng
