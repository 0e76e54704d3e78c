/- Plain lemmas: list operations that may fail, loops. No program stands in them. -/
import Derived.Test.YtogfdiigokidaaaDoorEng9
namespace Go.Eng
open Go

theorem xnth_nat {α : Type} (l : List α) (n : Nat) : xnth l (n : Int) = l[n]? := by
  unfold xnth; rw [if_pos (by omega)]; rfl
theorem xsub_some {α : Type} {l : List α} {i j : Int} (h : 0 ≤ i ∧ i ≤ j ∧ j ≤ l.length) : xsub l i j = some ((l.take j.toNat).drop i.toNat) := by
  unfold xsub; rw [if_pos h]
theorem xsub_nat {α : Type} {l : List α} {i j : Nat} (h : i ≤ j ∧ j ≤ l.length) : xsub l (i : Int) (j : Int) = some ((l.take j).drop i) := by
  rw [xsub_some ⟨by omega, by omega, by omega⟩]; rfl
theorem xapp_some {α : Type} {l k : List α} (h : l.length + k.length ≤ big) : xapp l k = some (l ++ k) := by
  unfold xapp; rw [if_pos h]
theorem xcat_some {a b : Str} (h : a.length + b.length ≤ 2 * big) : xcat a b = some (a ++ b) := by
  unfold xcat; rw [if_pos (by simp only [big] at h; omega)]
theorem wr_nat {n : Int} (h0 : -1000000000000000000 ≤ n) (h : n ≤ 1000000000000000000) : wr n = n := wr_eq ⟨by omega, by omega⟩
theorem bif_true {α : Type} (x y : α) : (bif true then x else y) = x := rfl
theorem bif_false {α : Type} (x y : α) : (bif false then x else y) = y := rfl
theorem some_bind {α β : Type} (a : α) (f : α → Option β) : (some a).bind f = f a := rfl

/-- A loop that counts up to the length and stops at the first byte that is bad. -/
theorem while_any {α ρ : Type} (body : Int → Option (Int ⊕ ρ)) (l : List α) (bad : α → Bool) (stop done : ρ)
    (h : ∀ (n : Nat) (hn : n < l.length), body (n : Int) = some (if bad l[n] = true then .inr stop else .inl ((n : Int) + 1)))
    (h' : body (l.length : Int) = some (.inr done)) : whileO body 0 = some (if l.any bad then stop else done) := by
  have key : ∀ (k n : Nat), n + k = l.length → whileO body (n : Int) = some (if (l.drop n).any bad then stop else done) := by
    intro k
    induction k with
    | zero =>
      intro n hn
      have : n = l.length := by omega
      subst this
      rw [whileO_done h']
      simp
    | succ k ih =>
      intro n hn
      have hlt : n < l.length := by omega
      have hb := h n hlt
      rw [List.drop_eq_getElem_cons hlt, List.any_cons]
      by_cases hbad : bad l[n] = true
      · rw [if_pos hbad] at hb
        rw [whileO_done hb, hbad]; simp
      · rw [if_neg hbad] at hb
        rw [whileO_next hb]
        have e : ((n : Int) + 1) = ((n + 1 : Nat) : Int) := by omega
        rw [e, ih (n + 1) (by omega)]
        simp [hbad]
  simpa using key l.length 0 (by omega)

/-! what is cut off at an end -/
def rtrim (p : UInt8 → Bool) (s : Str) : Str := (s.reverse.dropWhile p).reverse
def ltrim (p : UInt8 → Bool) (s : Str) : Str := s.dropWhile p
end Go.Eng
