/- The engine, part 7: what the written proofs use. -/
import Derived.Test.YtmeemcjmhbgbdaaGreatDoorEng6
import Derived.KernelRfl
namespace Go.Eng
open Go

theorem bindE {α β : Type} {m : Option α} {k : α → Option β} {r : β} (h : m.bind k = some r) : ∃ x, m = some x ∧ k x = some r := Option.bind_eq_some_iff.1 h
theorem condE {α : Type} {c : Bool} {x y : Option α} {r : α} (h : (bif c then x else y) = some r) : (c = true ∧ x = some r) ∨ (c = false ∧ y = some r) := by
  cases c
  · exact .inr ⟨rfl, h⟩
  · exact .inl ⟨rfl, h⟩
theorem condT {α : Type} {c : Bool} {x y : Option α} {r : α} (h : (bif c then x else y) = some r) (hc : c = true) : x = some r := by subst hc; exact h
theorem condF {α : Type} {c : Bool} {x y : Option α} {r : α} (h : (bif c then x else y) = some r) (hc : c = false) : y = some r := by subst hc; exact h
theorem boolE (b : Bool) : b = true ∨ b = false := by cases b <;> simp
/-- 'x/y' on ints: none if y is 0. -/
def xquo (a b : Int) : Option Int := if b = 0 then none else some (wr (a.tdiv b))
def xrem (a b : Int) : Option Int := if b = 0 then none else some (a.tmod b)

section
variable {P : Program} {N : Nat} {f : Fr} {w : World}
theorem WP.cut {c : Code} {Q : Exit → Fr → World → Prop} (Mid : Fr → World → Prop) (hx : WP P N c (fun e f w => match e with | .normal => Mid f w | e => Q e f w) f w) (k : ∀ f w, Mid f w → Q .normal f w) : WP P N c Q f w :=
  hx.mono fun e f w h => by
    cases e with
    | normal => exact k f w h
    | _ => exact h
theorem WP.loopM {σ ρ : Type} {c : Code} {Q : Exit → Fr → World → Prop} (body : σ → Option (σ ⊕ ρ)) (I : σ → Fr → World → Prop) (s : σ) (r : ρ) (hw : whileO body s = some r) {f : Fr} {w : World} (hI : I s f w)
    (h : ∀ s f w, I s f w → ∀ y, body s = some y → (match y with | .inr r' => r' = r | .inl _ => True) →
      WP P N c (fun e f' w' => match y with | .inl s' => e = .normal ∧ I s' f' w' | .inr _ => match e with | .normal => False | e => Q e f' w') f w) :
    WP P N (.loop c) Q f w :=
  WP.loop body I s r hw hI fun s f w hI y hy hr => (h s f w hI y hy hr).mono fun e f' w' hq => by
    cases y with
    | inl s' => exact hq
    | inr r' => cases e <;> exact hq
theorem R.mv {x : Operand} {v : Value} {d : Option Nat} {ty : TypeId} {pos : String} {af : Array Edge} {g : Option (Nat × Bool)} (hx : ev N f x = v) : (execOp (ev N f) ⟨d, .move x, ty, pos, af, g⟩).run P w = .ok (.value v) w := by rw [← hx]; rfl
theorem R.as {x : Operand} {v : Value} {d : Option Nat} {ty : TypeId} {pos : String} {af : Array Edge} {g : Option (Nat × Bool)} (hx : ev N f x = v) : (execOp (ev N f) ⟨d, .assign x, ty, pos, af, g⟩).run P w = .ok (.value v) w := by rw [← hx]; rfl
theorem WL.gund {ops : Array Oper} {rest : List Oper} {d : Option Nat} {op : Op} {ty : TypeId} {pos : String} {af : Array Edge} {Q : Fr → World → Prop} {j t : Nat} {b : Bool}
    (hj : (ops[j]?).bind (·.dst) = some t) (hv : ev N f (.tmp t) = undef) (h : WL P N ops rest Q (updo f d undef) w) : WL P N ops (⟨d, op, ty, pos, af, some (j, b)⟩ :: rest) Q f w := by
  have hy : yielded ops (act N f).tmps j = none := by
    unfold yielded
    rw [hj]
    simp only [Option.bind_some, act, tm_get]
    simp only [ev, blt_iff] at hv
    by_cases h : t < N
    · simp only [h, decide_true, cond_true] at hv; simp only [h, if_true, hv, undef]
    · simp only [h, if_false]
  have h := h.out
  refine ⟨?_⟩
  unfold wpList
  rw [if_neg (by simp [Region.wanted, hy])]
  rw [put_act]
  exact h
variable {d : Option Nat} {ty : TypeId} {pos : String} {af : Array Edge} {g : Option (Nat × Bool)}
theorem R.pickT {c x y : Operand} {b : Bool} {v : Value} (hc : ev N f c = boo b) (hb : b = true) (hx : ev N f x = v) : (execOp (ev N f) ⟨d, .pick c x y, ty, pos, af, g⟩).run P w = .ok (.value v) w := by
  rw [R.pick hc, hb, ← hx]; rfl
theorem R.pickF {c x y : Operand} {b : Bool} {v : Value} (hc : ev N f c = boo b) (hb : b = false) (hy : ev N f y = v) : (execOp (ev N f) ⟨d, .pick c x y, ty, pos, af, g⟩).run P w = .ok (.value v) w := by
  rw [R.pick hc, hb, ← hy]; rfl
theorem R.quo' {x y : Operand} {a b c : Int} {T T' : TypeId} (hx : ev N f x = int a) (hy : ev N f y = int b) (h : xquo a b = some c) : (execOp (ev N f) ⟨d, .binOp .quo T x y T', ty, pos, af, g⟩).run P w = .ok (.value (int c)) w := by
  unfold xquo at h
  split at h
  · cases h
  · rename_i h0
    simp only [Option.some.injEq] at h
    subst h
    exact R.quo hx hy h0
theorem R.rem' {x y : Operand} {a b c : Int} {T T' : TypeId} (hx : ev N f x = int a) (hy : ev N f y = int b) (h : xrem a b = some c) : (execOp (ev N f) ⟨d, .binOp .rem T x y T', ty, pos, af, g⟩).run P w = .ok (.value (int c)) w := by
  unfold xrem at h
  split at h
  · cases h
  · rename_i h0
    simp only [Option.some.injEq] at h
    subst h
    exact R.rem hx hy h0
end
def memb : List Nat → Nat → Bool
  | [], _ => false
  | d :: ds, t => bif Nat.beq t d then true else memb ds t
/-- A frame in which the slots ds hold whatever they hold. -/
def upds (f : Fr) (ds : List Nat) (us : Fr) : Fr := fun t => bif memb ds t then us t else f t
def agree (f f' : Fr) (ds : List Nat) : Prop := ∀ t, memb ds t = false → f' t = f t
theorem agree_refl {f : Fr} {ds : List Nat} : agree f f ds := fun _ _ => rfl
theorem agree_upd {f f' : Fr} {ds : List Nat} {d : Nat} {v : Value} (hd : memb ds d = true) (h : agree f f' ds) : agree f (upd f' d v) ds := fun t ht => by
  have : Nat.beq t d = false := by
    cases hb : Nat.beq t d with
    | false => rfl
    | true => rw [Nat.eq_of_beq_eq_true hb] at ht; rw [hd] at ht; cases ht
  show (bif Nat.beq t d then v else f' t) = f t
  rw [this]; exact h t ht
theorem agree_upds {f f' : Fr} {ds es : List Nat} {us : Fr} (hd : ∀ t, memb es t = true → memb ds t = true) (h : agree f f' ds) : agree f (upds f' es us) ds := fun t ht => by
  show (bif memb es t then us t else f' t) = f t
  cases hb : memb es t with
  | false => exact h t ht
  | true => rw [hd t hb] at ht; cases ht
/-- Is every slot of es one of ds? -/
def subs (es ds : List Nat) : Bool := es.all fun t => memb ds t
theorem memb_of_subs {es ds : List Nat} (h : subs es ds = true) (t : Nat) (ht : memb es t = true) : memb ds t = true := by
  induction es with
  | nil => cases ht
  | cons e es ih =>
    simp only [subs, List.all_cons, Bool.and_eq_true] at h
    simp only [memb] at ht
    cases hb : Nat.beq t e with
    | false => rw [hb] at ht; exact ih h.2 ht
    | true => rw [Nat.eq_of_beq_eq_true hb]; exact h.1
theorem agree_upds' {f f' : Fr} {ds es : List Nat} {us : Fr} (hd : subs es ds = true) (h : agree f f' ds) : agree f (upds f' es us) ds := agree_upds (memb_of_subs hd) h
theorem frame_eq {f f' : Fr} {ds : List Nat} {dp : Nat} {v : Value} (h1 : f' dp = v) (h2 : agree f f' (dp :: ds)) : f' = upd (upds f ds f') dp v := by
  funext t
  show f' t = bif Nat.beq t dp then v else bif memb ds t then f' t else f t
  cases hb : Nat.beq t dp with
  | true => rw [Nat.eq_of_beq_eq_true hb]; exact h1
  | false =>
    cases hm : memb ds t with
    | true => rfl
    | false => exact h2 t (by simp only [memb, hb, cond_false, hm])
theorem andT {b x : Bool} (hb : b = true) : boo x = boo (b && x) := by subst hb; rfl
theorem andF {b x : Bool} (hb : b = false) : boo false = boo (b && x) := by subst hb; rfl
theorem orT {b x : Bool} (hb : b = true) : boo true = boo (b || x) := by subst hb; rfl
theorem orF {b x : Bool} (hb : b = false) : boo x = boo (b || x) := by subst hb; rfl
theorem wpList_append {P : Program} {ops : Array Oper} {Q : Exit → Act → World → Prop} : ∀ (l l' : List Oper) (a : Act) (w : World), wpList P ops (fun e a w => match e with | .normal => wpList P ops Q l' a w | e => Q e a w) l a w → wpList P ops Q (l ++ l') a w := by
  intro l l'
  induction l with
  | nil => intro a w h; exact h
  | cons o l ih =>
    intro a w h
    rw [List.cons_append]
    unfold wpList at h ⊢
    split
    · rename_i hw
      rw [if_pos hw] at h
      rcases h with h | ⟨hk, a0, w0, hq⟩
      · refine .inl ?_
        unfold Oper.wp at h ⊢
        generalize (execOp a.eval o).run P w = r at h ⊢
        cases r with
        | ok n w' =>
          cases n with
          | enter g args =>
            exact Calls.mono h (fun e w'' he => by
              cases e with
              | returned v => exact ih _ _ he
              | panicked c => exact he
              | outgrown => exact he)
          | row r args => exact Rows.mono h (fun v w'' he => ih _ _ he)
          | value v => exact ih _ _ h
          | skip => exact ih _ _ h
          | defer d => exact ih _ _ h
          | _ => exact h
        | halt x w' => cases x <;> exact h
      · exact .inr ⟨hk, a0, w0, hq⟩
    · rename_i hw
      rw [if_neg hw] at h
      exact ih _ _ h
section
variable {P : Program} {N : Nat} {f : Fr} {w : World} {ops : Array Oper} {Q : Fr → World → Prop} {l : List Oper}
theorem WL.mono {Q' : Fr → World → Prop} (h : WL P N ops l Q f w) (hq : ∀ f w, Q f w → Q' f w) : WL P N ops l Q' f w := by
  have key : ∀ (l : List Oper) (a : Act) (w : World), wpList P ops (fun e a w' => ∃ f', a = act N f' ∧ e = .normal ∧ Q f' w') l a w → wpList P ops (fun e a w' => ∃ f', a = act N f' ∧ e = .normal ∧ Q' f' w') l a w := by
    intro l
    induction l with
    | nil => intro a w ⟨f', ha, he, q⟩; exact ⟨f', ha, he, hq _ _ q⟩
    | cons o rest ih =>
      intro a w h
      unfold wpList at h ⊢
      split
      · rename_i hw
        rw [if_pos hw] at h
        rcases h with h | ⟨hk, a0, w0, f0, ha, he, hq0⟩
        · refine .inl ?_
          unfold Oper.wp at h ⊢
          generalize (execOp a.eval o).run P w = r at h ⊢
          cases r with
          | ok n w' =>
            cases n with
            | enter g args =>
              exact Calls.mono h (fun e w'' he => by
                cases e with
                | returned v => exact ih _ _ he
                | panicked c => obtain ⟨f', ha, hc, _⟩ := he; cases hc
                | outgrown => obtain ⟨a0, w0, f0, _, hc, _⟩ := he; cases hc)
            | row r args => exact Rows.mono h (fun v w'' he => ih _ _ he)
            | value v => exact ih _ _ h
            | skip => exact ih _ _ h
            | defer d => exact ih _ _ h
            | _ => exact h
          | halt x w' =>
            cases x with
            | panic v => obtain ⟨f', _, hc, _⟩ := h; cases hc
            | _ => exact h
        · cases he
      · rename_i hw
        rw [if_neg hw] at h
        exact ih _ _ h
  exact ⟨key _ _ _ h.out⟩
theorem WL.append {l l' : List Oper} (h : WL P N ops l (fun f w => WL P N ops l' Q f w) f w) : WL P N ops (l ++ l') Q f w := by
  refine ⟨wpList_append _ _ _ _ ?_⟩
  have key : ∀ (l : List Oper) (a : Act) (w : World), wpList P ops (fun e a w' => ∃ f', a = act N f' ∧ e = .normal ∧ WL P N ops l' Q f' w') l a w → wpList P ops (fun e a w => match e with | .normal => wpList P ops (fun e a w' => ∃ f', a = act N f' ∧ e = .normal ∧ Q f' w') l' a w | e => ∃ f', a = act N f' ∧ e = .normal ∧ Q f' w) l a w := by
    intro l
    induction l with
    | nil => intro a w ⟨f', ha, he, q⟩; subst ha; exact q.out
    | cons o rest ih =>
      intro a w h
      unfold wpList at h ⊢
      split
      · rename_i hw
        rw [if_pos hw] at h
        rcases h with h | ⟨hk, a0, w0, f0, ha, he, hq0⟩
        · refine .inl ?_
          unfold Oper.wp at h ⊢
          generalize (execOp a.eval o).run P w = r at h ⊢
          cases r with
          | ok n w' =>
            cases n with
            | enter g args =>
              exact Calls.mono h (fun e w'' he => by
                cases e with
                | returned v => exact ih _ _ he
                | panicked c => obtain ⟨f', ha, hc, _⟩ := he; cases hc
                | outgrown => obtain ⟨a0, w0, f0, _, hc, _⟩ := he; cases hc)
            | row r args => exact Rows.mono h (fun v w'' he => ih _ _ he)
            | value v => exact ih _ _ h
            | skip => exact ih _ _ h
            | defer d => exact ih _ _ h
            | _ => exact h
          | halt x w' =>
            cases x with
            | panic v => obtain ⟨f', _, hc, _⟩ := h; cases hc
            | _ => exact h
        · cases he
      · rename_i hw
        rw [if_neg hw] at h
        exact ih _ _ h
  exact key _ _ _ h.out
/-- A group of guarded operations, whose ways meet. -/
theorem WL.grp (n : Nat) (ds : List Nat) (dp : Nat) (v : Value) (h : WL P N ops (l.take n) (fun f' w' => f' dp = v ∧ agree f f' (dp :: ds) ∧ w' = w) f w)
    (k : ∀ us, WL P N ops (l.drop n) Q (upd (upds f ds us) dp v) w) : WL P N ops l Q f w := by
  rw [← List.take_append_drop n l]
  refine WL.append (h.mono fun f' w' ⟨h1, h2, h3⟩ => ?_)
  subst h3
  rw [frame_eq h1 h2]
  exact k f'
theorem WL.grpw (n : Nat) (ds : List Nat) (dp : Nat) (v : Value) (Mid : World → Prop) (h : WL P N ops (l.take n) (fun f' w' => f' dp = v ∧ agree f f' (dp :: ds) ∧ Mid w') f w)
    (k : ∀ us w', Mid w' → WL P N ops (l.drop n) Q (upd (upds f ds us) dp v) w') : WL P N ops l Q f w := by
  rw [← List.take_append_drop n l]
  refine WL.append (h.mono fun f' w' ⟨h1, h2, h3⟩ => ?_)
  rw [frame_eq h1 h2]
  exact k f' w' h3
end
/-- The check of an element type, as one Bool. -/
def elemB (P : Program) (T e : TypeId) (sz : Nat) : Bool :=
  (match P.underlying T with | some (.slice e') => e' == e | _ => false) &&
  (match P.info? e with
    | some i => i.size == sz && Nat.ble i.bytes 512 && (match i.zero with | some z => z.cells.size == sz | none => false)
    | none => false)
theorem elem_of {P : Program} {T e : TypeId} {sz : Nat} (h : elemB P T e sz = true) : Elem P T e sz := by
  unfold elemB at h
  rw [Bool.and_eq_true] at h
  obtain ⟨h1, h2⟩ := h
  constructor
  · split at h1
    · rename_i e' he
      rw [he]; simp at h1; rw [h1]
    · cases h1
  · split at h2
    · rename_i i hi
      simp only [Bool.and_eq_true, beq_iff_eq] at h2
      obtain ⟨⟨h3, h4⟩, h5⟩ := h2
      split at h5
      · rename_i z hz
        exact ⟨i, z, hi, hz, h3, by simpa using h5, Nat.le_of_ble_eq_true h4⟩
      · cases h5
    · cases h2
end Go.Eng
