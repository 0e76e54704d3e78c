/- Comparisons and bounds: what the functions compute, in plain words. -/
import Derived.Test.YtmeemcjmhbgbdaaGreatDoorListP
namespace Go.Eng
open Go
end Go.Eng
namespace Go.Eng.Pure
open Go Go.Eng
set_option linter.unusedVariables false
/-- A loop with a bound on its rounds, that looks for a bad element. -/
theorem while_keep {α : Type} (l : List α) (m : Nat) (bad : α → Bool) (body : Int → Option (Int ⊕ (Unit ⊕ Bool)))
    (h : ∀ (n : Nat) (hn : n < l.length), n < m → body (n : Int) = some (if bad l[n] = true then .inr (.inr false) else .inl ((n : Int) + 1)))
    (h' : ∀ n : Nat, (l.length ≤ n ∨ m ≤ n) → body (n : Int) = some (.inr (.inl ()))) :
    whileO body 0 = some (if (l.take m).any bad then .inr false else .inl ()) := by
  refine while_any body (l.take m) bad (.inr false) (.inl ()) (fun n hn => ?_) ?_
  · have h1 : n < l.length := by rw [List.length_take] at hn; omega
    have h2 : n < m := by rw [List.length_take] at hn; omega
    rw [h n h1 h2, List.getElem_take]
  · exact h' _ (by rw [List.length_take]; omega)
def badF (n : Nat) (f : GField) : Bool := decide (n < f.fName.length) || decide (n < f.fValue.length)
def keepF (l : List GField) : Bool := !((l.take 71).any (badF 300)) && decide (l.length ≤ 70)
theorem keep_Fields_eq (l : List GField) : keep_Fields l = some (keepF l) := by
  unfold keep_Fields keepF
  rw [while_keep l 71 (badF 300)]
  · have e : decide ((l.length : Int) ≤ 70) = decide (l.length ≤ 70) := le_nat l.length 70
    rw [e]
    cases (l.take 71).any (badF 300) <;> simp
  · intro n hn hm
    have e1 : decide ((n : Int) < 71) = true := lt_true hm
    have e2 : wr ((n : Int) + 1) = (n : Int) + 1 := by rw [wrs (by omega)]; omega
    simp only [keep_Fields_L0, lt_true hn, e1, Bool.and_self, bif_true, xnth_get hn, some_bind, e2]
    have e3 : decide (300 < ((l[n].fName.length : Nat) : Int)) = decide (300 < l[n].fName.length) := lt_nat 300 _
    have e4 : decide (300 < ((l[n].fValue.length : Nat) : Int)) = decide (300 < l[n].fValue.length) := lt_nat 300 _
    rw [e3, e4]
    unfold badF
    cases decide (300 < l[n].fName.length) <;> cases decide (300 < l[n].fValue.length) <;> rfl
  · intro n hn
    have : (decide ((n : Int) < (l.length : Int)) && decide ((n : Int) < 71)) = false := by
      rcases hn with hn | hn
      · rw [lt_false hn]; rfl
      · rw [show decide ((n : Int) < 71) = false from lt_false hn, Bool.and_false]
    simp only [keep_Fields_L0, this, bif_false]
theorem keepF_sm {l : List GField} (h : keepF l = true) : l.length ≤ 70 ∧ ∀ f ∈ l, f.fName.length ≤ 300 ∧ f.fValue.length ≤ 300 := by
  unfold keepF at h
  simp only [Bool.and_eq_true, Bool.not_eq_true', decide_eq_true_eq] at h
  refine ⟨h.2, fun f hf => ?_⟩
  rw [List.take_of_length_le (by omega)] at h
  have := List.any_eq_false.1 h.1 f hf
  simp only [badF, Bool.or_eq_true, decide_eq_true_eq] at this
  omega
end Go.Eng.Pure
