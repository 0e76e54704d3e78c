/- The engine, part 1: frames as functions, the walk's judgements, and the rules of control. -/
import Derived.WalkKit
import Derived.Deep.Quiet
namespace Go.Eng
open Go

abbrev Fr := Nat → Value
def upd (f : Fr) (d : Nat) (v : Value) : Fr := fun t => bif Nat.beq t d then v else f t
def updo (f : Fr) (d : Option Nat) (v : Value) : Fr := match d with | some d => upd f d v | none => f
def tm (N : Nat) (f : Fr) : Array Value := ((List.range N).map f).toArray
def act (N : Nat) (f : Fr) : Act := { tmps := tm N f, defers := [] }
def ev (N : Nat) (f : Fr) : Operand → Value
  | .tmp t => bif Nat.blt t N then f t else undef
  | .const v => v
  | .global g => .pointer (some ⟨g, 0, none⟩)
  | .func k => .func (.func k) #[] #[]
def init (l : List Value) : Fr := fun t => l.getD t undef

theorem tm_size (N : Nat) (f : Fr) : (tm N f).size = N := by simp [tm]
theorem tm_get (N : Nat) (f : Fr) (t : Nat) : (tm N f)[t]? = if t < N then some (f t) else none := by
  unfold tm
  simp only [List.getElem?_toArray, List.getElem?_map]
  by_cases h : t < N
  · simp [h]
  · simp [h]
theorem blt_iff (a b : Nat) : Nat.blt a b = decide (a < b) := by
  by_cases h : a < b
  · simp only [h, decide_true]; exact Nat.ble_eq_true_of_le h
  · simp only [h, decide_false]
    cases hb : Nat.blt a b with
    | false => rfl
    | true => exact absurd (Nat.le_of_ble_eq_true hb) h
theorem eval_act (N : Nat) (f : Fr) (x : Operand) : (act N f).eval x = ev N f x := by
  cases x with
  | tmp t =>
    simp only [Act.eval, act, ev, Array.getD_eq_getD_getElem?, tm_get, blt_iff]
    by_cases h : t < N <;> simp [h]
  | const v => rfl
  | global g => rfl
  | func k => rfl
theorem eval_act' (N : Nat) (f : Fr) : (act N f).eval = ev N f := funext (eval_act N f)
theorem put_act (N : Nat) (f : Fr) (d : Option Nat) (v : Value) : (act N f).put d v = act N (updo f d v) := by
  cases d with
  | none => rfl
  | some d =>
    simp only [Act.put, act, updo]
    congr 1
    apply Array.ext_getElem?
    intro t
    rw [Array.getElem?_setIfInBounds, tm_get, tm_size, tm_get]
    by_cases hd : d = t
    · subst hd
      simp only [if_true, upd, show Nat.beq d d = true from Nat.beq_refl d, cond_true]
    · have : Nat.beq t d = false := by
        cases hb : Nat.beq t d with
        | false => rfl
        | true => exact absurd (Nat.eq_of_beq_eq_true hb).symm hd
      simp only [hd, if_false, upd, this, cond_false]

def WP (P : Program) (N : Nat) (c : Code) (Q : Exit → Fr → World → Prop) (f : Fr) (w : World) : Prop :=
  c.wp P (fun e a w' => ∃ f', a = act N f' ∧ Q e f' w') (act N f) w
structure WL (P : Program) (N : Nat) (ops : Array Oper) (l : List Oper) (Q : Fr → World → Prop) (f : Fr) (w : World) : Prop where
  out : wpList P ops (fun e a w' => ∃ f', a = act N f' ∧ e = .normal ∧ Q f' w') l (act N f) w

section
variable {P : Program} {N : Nat}

theorem WP.mono {c : Code} {Q Q' : Exit → Fr → World → Prop} {f : Fr} {w : World} (h : WP P N c Q f w) (hq : ∀ e f w, Q e f w → Q' e f w) : WP P N c Q' f w :=
  Code.wp_mono (fun e _ w ⟨f', ha, q⟩ => ⟨f', ha, hq e f' w q⟩) h

theorem WP.seq {x y : Code} {Q : Exit → Fr → World → Prop} {f : Fr} {w : World}
    (h : WP P N x (fun e f w => match e with | .normal => WP P N y Q f w | e => Q e f w) f w) : WP P N (.seq x y) Q f w := by
  refine wp_seq (Code.wp_mono (fun e a w ⟨f', ha, q⟩ => ?_) h)
  subst ha
  cases e with
  | normal => exact q
  | _ => exact ⟨f', rfl, q⟩
theorem WP.skip {Q : Exit → Fr → World → Prop} {f : Fr} {w : World} (h : Q .normal f w) : WP P N .skip Q f w := wp_skip ⟨f, rfl, h⟩
theorem WP.ret {Q : Exit → Fr → World → Prop} {f : Fr} {w : World} (h : Q .ret f w) : WP P N .ret Q f w := wp_ret ⟨f, rfl, h⟩
theorem WP.exit {id : Nat} {Q : Exit → Fr → World → Prop} {f : Fr} {w : World} (h : Q (.exit id) f w) : WP P N (.exit id) Q f w := wp_exit ⟨f, rfl, h⟩
theorem WP.condT {c : Operand} {x y : Code} {Q : Exit → Fr → World → Prop} {f : Fr} {w : World} {b : Bool} (hc : ev N f c = .bool b) (hb : b = true) (h : WP P N x Q f w) : WP P N (.cond c x y) Q f w := by
  subst hb; exact wp_cond_true ((eval_act N f c).trans hc) h
theorem WP.condF {c : Operand} {x y : Code} {Q : Exit → Fr → World → Prop} {f : Fr} {w : World} {b : Bool} (hc : ev N f c = .bool b) (hb : b = false) (h : WP P N y Q f w) : WP P N (.cond c x y) Q f w := by
  subst hb; exact wp_cond_false ((eval_act N f c).trans hc) h
/-- What a block does to an exit. -/
@[reducible] def blk (id : Nat) : Exit → Exit | .exit i => bif Nat.beq i id then .normal else .exit i | e => e
theorem WP.block {id : Nat} {c : Code} {Q : Exit → Fr → World → Prop} {f : Fr} {w : World} (h : WP P N c (fun e f w => Q (blk id e) f w) f w) : WP P N (.block id c) Q f w := by
  refine wp_block (Code.wp_mono (fun e a w ⟨f', ha, q⟩ => ?_) h)
  subst ha
  cases e with
  | exit i =>
    simp only [Exit.inBlock]
    by_cases hi : i = id
    · subst hi
      simp only [if_true]
      refine ⟨f', rfl, ?_⟩
      simpa [blk] using q
    · simp only [hi, if_false]
      refine ⟨f', rfl, ?_⟩
      have hb : Nat.beq i id = false := by
        cases hb : Nat.beq i id with
        | false => rfl
        | true => exact absurd (Nat.eq_of_beq_eq_true hb) hi
      simpa [blk, hb] using q
  | _ => exact ⟨f', rfl, q⟩
theorem WP.region {id : Nat} {ops : Array Oper} {Q : Exit → Fr → World → Prop} {f : Fr} {w : World} (h : WL P N ops ops.toList (Q .normal) f w) : WP P N (.region id ops false) Q f w := by
  refine wp_region_list ?_
  have key : ∀ (l : List Oper) (a : Act) (w : World), wpList P ops (fun e a w' => ∃ f', a = act N f' ∧ e = .normal ∧ Q .normal f' w') l a w → wpList P ops (fun e a w' => ∃ f', a = act N f' ∧ Q e f' w') l a w := by
    intro l
    induction l with
    | nil => intro a w ⟨f', ha, _, q⟩; exact ⟨f', ha, q⟩
    | cons o rest ih =>
      intro a w h
      unfold wpList at h ⊢
      split
      · rename_i hw
        rw [if_pos hw] at h
        rcases h with h | ⟨_, a0, w0, f0, _, hc, _⟩
        · refine .inl ?_
          unfold Oper.wp at h ⊢
          generalize (execOp a.eval o).run P w = r at h ⊢
          cases r with
          | ok n w' =>
            cases n with
            | enter g args =>
              exact Calls.mono h (fun e w'' he => by
                cases e with
                | returned v => exact ih _ _ he
                | panicked c => obtain ⟨f', ha, hc, _⟩ := he; cases hc
                | outgrown => obtain ⟨a0, w0, f0, _, hc, _⟩ := he; cases hc)
            | row r args => exact Rows.mono h (fun v w'' he => ih _ _ he)
            | value v => exact ih _ _ h
            | skip => exact ih _ _ h
            | defer d => exact ih _ _ h
            | _ => exact h
          | halt x w' =>
            cases x with
            | panic v => obtain ⟨f', _, hc, _⟩ := h; cases hc
            | _ => exact h
        · cases hc
      · rename_i hw
        rw [if_neg hw] at h
        exact ih _ _ h
  exact key _ _ _ h.out

theorem WL.nil {ops : Array Oper} {Q : Fr → World → Prop} {f : Fr} {w : World} (h : Q f w) : WL P N ops [] Q f w := ⟨⟨f, rfl, rfl, h⟩⟩
theorem WL.valw {ops : Array Oper} {rest : List Oper} {d : Option Nat} {op : Op} {ty : TypeId} {pos : String} {af : Array Edge} {Q : Fr → World → Prop} {f : Fr} {w w' : World} {v : Value}
    (hr : (execOp (ev N f) ⟨d, op, ty, pos, af, none⟩).run P w = .ok (.value v) w') (h : WL P N ops rest Q (updo f d v) w') : WL P N ops (⟨d, op, ty, pos, af, none⟩ :: rest) Q f w := by
  refine ⟨wpList_plain rfl fun K hK => ?_⟩
  unfold Oper.wp
  rw [eval_act', hr]
  show K ((act N f).put d v) w'
  rw [put_act]
  exact hK _ _ h.out
theorem WL.skipw {ops : Array Oper} {rest : List Oper} {d : Option Nat} {op : Op} {ty : TypeId} {pos : String} {af : Array Edge} {Q : Fr → World → Prop} {f : Fr} {w w' : World}
    (hr : (execOp (ev N f) ⟨d, op, ty, pos, af, none⟩).run P w = .ok .skip w') (h : WL P N ops rest Q (updo f d undef) w') : WL P N ops (⟨d, op, ty, pos, af, none⟩ :: rest) Q f w := by
  refine ⟨wpList_plain rfl fun K hK => ?_⟩
  unfold Oper.wp
  rw [eval_act', hr]
  show K ((act N f).put d undef) w'
  rw [put_act]
  exact hK _ _ h.out
theorem WL.enterw {ops : Array Oper} {rest : List Oper} {d : Option Nat} {op : Op} {ty : TypeId} {pos : String} {af : Array Edge} {Q : Fr → World → Prop} {f : Fr} {w w' : World} {k : FuncId} {args : Array Value}
    (hr : (execOp (ev N f) ⟨d, op, ty, pos, af, none⟩).run P w = .ok (.enter k args) w')
    (h : Calls P k args w' fun e w'' => ∃ v, e = .returned v ∧ WL P N ops rest Q (updo f d v) w'') : WL P N ops (⟨d, op, ty, pos, af, none⟩ :: rest) Q f w := by
  refine ⟨wpList_plain rfl fun K hK => ?_⟩
  unfold Oper.wp
  rw [eval_act', hr]
  refine Calls.mono h (fun e w'' ⟨v, he, hw⟩ => ?_)
  subst he
  show K ((act N f).put d v) w''
  rw [put_act]
  exact hK _ _ hw.out
theorem yielded_act {ops : Array Oper} {f : Fr} {j t : Nat} {b : Bool} (hj : (ops[j]?).bind (·.dst) = some t) (hv : ev N f (.tmp t) = .bool b) : yielded ops (act N f).tmps j = some b := by
  unfold yielded
  rw [hj]
  simp only [Option.bind_some, act, tm_get]
  simp only [ev, blt_iff] at hv
  by_cases h : t < N
  · simp only [h, decide_true, cond_true] at hv; simp only [h, if_true, hv]
  · simp only [h, decide_false, cond_false] at hv; cases hv
theorem WL.gyes {ops : Array Oper} {rest : List Oper} {d : Option Nat} {op : Op} {ty : TypeId} {pos : String} {af : Array Edge} {Q : Fr → World → Prop} {f : Fr} {w : World} {j t : Nat} {b b' : Bool}
    (hj : (ops[j]?).bind (·.dst) = some t) (hv : ev N f (.tmp t) = .bool b') (hb : b' = b) (h : WL P N ops (⟨d, op, ty, pos, af, none⟩ :: rest) Q f w) : WL P N ops (⟨d, op, ty, pos, af, some (j, b)⟩ :: rest) Q f w := by
  subst hb
  have hy := yielded_act (N := N) hj hv
  have h := h.out
  refine ⟨?_⟩
  unfold wpList at h ⊢
  rw [if_pos (by simp [Region.wanted, hy])]
  rw [if_pos (by simp [Region.wanted])] at h
  exact h
theorem WL.gno {ops : Array Oper} {rest : List Oper} {d : Option Nat} {op : Op} {ty : TypeId} {pos : String} {af : Array Edge} {Q : Fr → World → Prop} {f : Fr} {w : World} {j t : Nat} {b b' : Bool}
    (hj : (ops[j]?).bind (·.dst) = some t) (hv : ev N f (.tmp t) = .bool b') (hb : b' = !b) (h : WL P N ops rest Q (updo f d undef) w) : WL P N ops (⟨d, op, ty, pos, af, some (j, b)⟩ :: rest) Q f w := by
  subst hb
  have hy := yielded_act (N := N) hj hv
  have h := h.out
  refine ⟨?_⟩
  unfold wpList
  rw [if_neg (by simp [Region.wanted, hy])]
  rw [put_act]
  exact h

def loopN {σ ρ : Type} (body : σ → Option (σ ⊕ ρ)) : Nat → σ → Option ρ
  | 0, _ => none
  | n + 1, s => match body s with
    | none => none
    | some (.inl s') => loopN body n s'
    | some (.inr r) => some r
theorem loopN_mono {σ ρ : Type} (body : σ → Option (σ ⊕ ρ)) : ∀ (n m : Nat) (s : σ) (r : ρ), n ≤ m → loopN body n s = some r → loopN body m s = some r := by
  intro n
  induction n with
  | zero => intro m s r _ h; cases h
  | succ n ih =>
    intro m s r hm h
    obtain ⟨m, rfl⟩ : ∃ k, m = k + 1 := ⟨m - 1, by omega⟩
    simp only [loopN] at h ⊢
    split at h
    · cases h
    · exact ih m _ r (by omega) h
    · exact h
open Classical in
/-- The loop: what it comes to, if it comes to an end. -/
noncomputable def whileO {σ ρ : Type} (body : σ → Option (σ ⊕ ρ)) (s : σ) : Option ρ :=
  if h : ∃ n r, loopN body n s = some r then some (Classical.choose (Classical.choose_spec h)) else none
theorem whileO_of {σ ρ : Type} {body : σ → Option (σ ⊕ ρ)} {n : Nat} {s : σ} {r : ρ} (h : loopN body n s = some r) : whileO body s = some r := by
  have hex : ∃ n r, loopN body n s = some r := ⟨n, r, h⟩
  unfold whileO
  rw [dif_pos hex]
  have h2 := Classical.choose_spec (Classical.choose_spec hex)
  have e1 := loopN_mono body _ _ s _ (Nat.le_max_left n (Classical.choose hex)) h
  have e2 := loopN_mono body _ _ s _ (Nat.le_max_right n (Classical.choose hex)) h2
  rw [e1] at e2
  exact e2.symm
theorem whileO_some {σ ρ : Type} {body : σ → Option (σ ⊕ ρ)} {s : σ} {r : ρ} (h : whileO body s = some r) : ∃ n, loopN body n s = some r := by
  unfold whileO at h
  split at h
  · rename_i hex
    have h2 := Classical.choose_spec (Classical.choose_spec hex)
    refine ⟨Classical.choose hex, ?_⟩
    rw [h2]; exact h
  · cases h
theorem whileO_next {σ ρ : Type} {body : σ → Option (σ ⊕ ρ)} {s s' : σ} (h : body s = some (.inl s')) : whileO body s = whileO body s' := by
  apply Option.ext
  intro r
  constructor
  · intro hr
    obtain ⟨n, hn⟩ := whileO_some hr
    cases n with
    | zero => cases hn
    | succ n => simp only [loopN, h] at hn; exact whileO_of hn
  · intro hr
    obtain ⟨n, hn⟩ := whileO_some hr
    exact whileO_of (n := n + 1) (by simp only [loopN, h]; exact hn)
theorem whileO_done {σ ρ : Type} {body : σ → Option (σ ⊕ ρ)} {s : σ} {r : ρ} (h : body s = some (.inr r)) : whileO body s = some r :=
  whileO_of (n := 1) (by simp only [loopN, h])
/-- The loop's code carries out the loop. -/
theorem WP.loop {σ ρ : Type} {c : Code} {Q : Exit → Fr → World → Prop} (body : σ → Option (σ ⊕ ρ)) (I : σ → Fr → World → Prop) (s : σ) (r : ρ) (hw : whileO body s = some r) {f : Fr} {w : World} (hI : I s f w)
    (h : ∀ s f w, I s f w → ∀ y, body s = some y → (match y with | .inr r' => r' = r | .inl _ => True) →
      WP P N c (fun e f' w' => match y with | .inl s' => e = .normal ∧ I s' f' w' | .inr _ => Exit.then (fun _ _ => False) (fun e _ _ => Q e f' w') e (act N f') w') f w) :
    WP P N (.loop c) Q f w := by
  obtain ⟨n, hn⟩ := whileO_some hw
  refine wp_loop_rounds n ?_
  induction n generalizing s f w with
  | zero => cases hn
  | succ n ih =>
    rw [rounds_succ]
    simp only [loopN] at hn
    cases hb : body s with
    | none => rw [hb] at hn; cases hn
    | some y =>
      rw [hb] at hn
      cases y with
      | inl s' =>
        refine Code.wp_mono (fun e a w' ⟨f', ha, he, hI'⟩ => ?_) (h s f w hI _ hb trivial)
        subst ha; subst he
        exact ih s' (whileO_of hn) hI' hn
      | inr r' =>
        have hr : r' = r := by simpa using hn
        refine Code.wp_mono (fun e a w' ⟨f', ha, hq⟩ => ?_) (h s f w hI _ hb hr)
        subst ha
        cases e with
        | normal => exact hq.elim
        | _ => exact ⟨f', rfl, hq⟩
end
end Go.Eng
