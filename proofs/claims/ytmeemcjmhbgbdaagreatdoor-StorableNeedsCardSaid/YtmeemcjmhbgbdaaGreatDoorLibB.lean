/- Plain lemmas: walks over lists, as loops. No program stands in them. -/
import Derived.Test.YtmeemcjmhbgbdaaGreatDoorLib
namespace Go.Eng
open Go

/-- A walk over a list that may stop. -/
def run {α σ ρ : Type} (f : σ → α → σ ⊕ ρ) (fin : σ → ρ) : List α → σ → ρ
  | [], st => fin st
  | x :: l, st => match f st x with | .inl st' => run f fin l st' | .inr r => r
/-- A loop over the numbers of a list, from n on, with an invariant. -/
theorem while_run {S α σ ρ : Type} (mk : σ → Int → S) (l : List α) (f : σ → α → σ ⊕ ρ) (fin : σ → ρ) (body : S → Option (S ⊕ ρ)) (I : Nat → σ → Prop)
    (h : ∀ (n : Nat) (hn : n < l.length) st, I n st → body (mk st (n : Int)) = some (match f st l[n] with | .inl st' => .inl (mk st' ((n + 1 : Nat) : Int)) | .inr r => .inr r) ∧ ∀ st', f st l[n] = .inl st' → I (n + 1) st')
    (h' : ∀ st, I l.length st → body (mk st (l.length : Int)) = some (.inr (fin st))) :
    ∀ (k n : Nat) (st : σ), n + k = l.length → I n st → whileO body (mk st (n : Int)) = some (run f fin (l.drop n) st) := by
  intro k
  induction k with
  | zero =>
    intro n st hn hI
    have : n = l.length := by omega
    subst this
    rw [whileO_done (h' st hI)]
    simp [run]
  | succ k ih =>
    intro n st hn hI
    have hlt : n < l.length := by omega
    obtain ⟨hb, hs⟩ := h n hlt st hI
    rw [List.drop_eq_getElem_cons hlt]
    unfold run
    cases hf : f st l[n] with
    | inl st' => rw [hf] at hb; rw [whileO_next hb, ih (n + 1) st' (by omega) (hs st' hf)]
    | inr r => rw [hf] at hb; rw [whileO_done hb]
theorem while_run0 {S α σ ρ : Type} (mk : σ → Int → S) (l : List α) (f : σ → α → σ ⊕ ρ) (fin : σ → ρ) (body : S → Option (S ⊕ ρ)) (I : Nat → σ → Prop) (st : σ) (hI : I 0 st)
    (h : ∀ (n : Nat) (hn : n < l.length) st, I n st → body (mk st (n : Int)) = some (match f st l[n] with | .inl st' => .inl (mk st' ((n + 1 : Nat) : Int)) | .inr r => .inr r) ∧ ∀ st', f st l[n] = .inl st' → I (n + 1) st')
    (h' : ∀ st, I l.length st → body (mk st (l.length : Int)) = some (.inr (fin st))) :
    whileO body (mk st 0) = some (run f fin l st) := by
  have := while_run mk l f fin body I h h' l.length 0 st (by omega) hI
  simpa using this
theorem lt_nat (n m : Nat) : decide ((n : Int) < (m : Int)) = decide (n < m) := by
  by_cases h : n < m
  · rw [decide_eq_true h, decide_eq_true (by omega)]
  · rw [decide_eq_false h, decide_eq_false (by omega)]
theorem le_nat (n m : Nat) : decide ((n : Int) ≤ (m : Int)) = decide (n ≤ m) := by
  by_cases h : n ≤ m
  · rw [decide_eq_true h, decide_eq_true (by omega)]
  · rw [decide_eq_false h, decide_eq_false (by omega)]
theorem lt_true {n m : Nat} (h : n < m) : decide ((n : Int) < (m : Int)) = true := decide_eq_true (by omega)
theorem lt_false {n m : Nat} (h : m ≤ n) : decide ((n : Int) < (m : Int)) = false := decide_eq_false (by omega)
theorem le_true {n m : Nat} (h : n ≤ m) : decide ((n : Int) ≤ (m : Int)) = true := decide_eq_true (by omega)
theorem le_false {n m : Nat} (h : m < n) : decide ((n : Int) ≤ (m : Int)) = false := decide_eq_false (by omega)
theorem xnth_get {α : Type} {l : List α} {n : Nat} (h : n < l.length) : xnth l (n : Int) = some l[n] := by rw [xnth_nat, List.getElem?_eq_getElem h]
/-- The step of a counter. -/
theorem wr_succ {n : Nat} (h : n ≤ 4 * big) : wr ((n : Int) + 1) = ((n + 1 : Nat) : Int) := by
  rw [wr_nat (by omega) (by simp only [big] at h; omega)]; omega
theorem wr_ofNat {n : Nat} (h : n ≤ 4 * big) : wr (n : Int) = (n : Int) := wr_nat (by omega) (by simp only [big] at h; omega)
theorem xsub_from {α : Type} {l : List α} {i : Nat} (h : i ≤ l.length) : xsub l (i : Int) (l.length : Int) = some (l.drop i) := by
  rw [xsub_nat ⟨h, Nat.le_refl _⟩, List.take_length]
theorem xsub_to {α : Type} {l : List α} {j : Nat} (h : j ≤ l.length) : xsub l 0 (j : Int) = some (l.take j) := by
  have := xsub_nat (l := l) (i := 0) (j := j) ⟨by omega, h⟩
  simpa using this
end Go.Eng
