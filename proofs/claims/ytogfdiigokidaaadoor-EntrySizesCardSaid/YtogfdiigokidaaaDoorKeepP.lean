/- Comparisons and bounds: what the functions compute, in plain words. -/
import Derived.Test.YtogfdiigokidaaaDoorListP
namespace Go.Eng
open Go
theorem while_same {α : Type} [DecidableEq α] (a b : List α) (body : Int → Option (Int ⊕ (Unit ⊕ Bool))) (hlen : a.length = b.length)
    (h : ∀ (n : Nat) (hn : n < a.length) (hb : n < b.length), body (n : Int) = some (if a[n] = b[n] then .inl ((n + 1 : Nat) : Int) else .inr (.inr false))) (h' : body (a.length : Int) = some (.inr (.inl ()))) :
    whileO body 0 = some (if a = b then .inl () else .inr false) := by
  have key : ∀ (k n : Nat), n + k = a.length → whileO body (n : Int) = some (if a.drop n = b.drop n then .inl () else .inr false) := by
    intro k
    induction k with
    | zero =>
      intro n hn
      obtain rfl : n = a.length := by omega
      rw [whileO_done h', List.drop_length, if_pos]
      rw [hlen, List.drop_length]
    | succ k ih =>
      intro n hn
      have hlt : n < a.length := by omega
      have hlb : n < b.length := by omega
      have hb := h n hlt hlb
      rw [List.drop_eq_getElem_cons hlt, List.drop_eq_getElem_cons hlb]
      by_cases he : a[n] = b[n]
      · rw [if_pos he] at hb
        have hi : (a[n] :: a.drop (n + 1) = b[n] :: b.drop (n + 1)) ↔ (a.drop (n + 1) = b.drop (n + 1)) := by
          rw [he]; exact ⟨fun h => (List.cons.inj h).2, fun h => by rw [h]⟩
        rw [whileO_next hb, ih (n + 1) (by omega)]
        simp only [hi]
      · rw [if_neg he] at hb
        rw [whileO_done hb, if_neg]
        intro hc
        exact he (List.cons.inj hc).1
  have := key a.length 0 (by omega)
  simpa using this
end Go.Eng
namespace Go.Eng.Pure
open Go Go.Eng
set_option linter.unusedVariables false
theorem SameStrings10_eq (a b : List Str) (ha : a.length ≤ 1073741824) : ref10_SameStrings a b = some (a == b) := by
  unfold ref10_SameStrings
  rw [neI]
  by_cases hl : a.length = b.length
  · have e : (a.length != b.length) = false := by simp [hl]
    rw [e, bif_false, while_same a b (ref10_SameStrings_L0 a b) hl]
    · by_cases h : a = b
      · simp [h]
      · simp [h]
    · intro n hn hb
      simp only [ref10_SameStrings_L0, lt_true hn, bif_true, xnth_get hn, xnth_get hb, some_bind, wrs (show n ≤ 4 * 1073741824 by omega)]
      by_cases he : a[n] = b[n]
      · have : (a[n] != b[n]) = false := by simp [he]
        rw [this, if_pos he]; rfl
      · have : (a[n] != b[n]) = true := by simp [he]
        rw [this, if_neg he]; rfl
    · simp only [ref10_SameStrings_L0, lt_false (Nat.le_refl a.length), bif_false]
  · have e : (a.length != b.length) = true := by simp [hl]
    have e2 : (a == b) = false := by
      rw [Bool.eq_false_iff]; intro h; exact hl (by rw [eq_of_beq h])
    rw [e, e2]; rfl
/-- A loop with a bound on its rounds, that looks for a bad element. -/
theorem while_keep {α : Type} (l : List α) (m : Nat) (bad : α → Bool) (body : Int → Option (Int ⊕ (Unit ⊕ Bool)))
    (h : ∀ (n : Nat) (hn : n < l.length), n < m → body (n : Int) = some (if bad l[n] = true then .inr (.inr false) else .inl ((n : Int) + 1)))
    (h' : ∀ n : Nat, (l.length ≤ n ∨ m ≤ n) → body (n : Int) = some (.inr (.inl ()))) :
    whileO body 0 = some (if (l.take m).any bad then .inr false else .inl ()) := by
  refine while_any body (l.take m) bad (.inr false) (.inl ()) (fun n hn => ?_) ?_
  · have h1 : n < l.length := by rw [List.length_take] at hn; omega
    have h2 : n < m := by rw [List.length_take] at hn; omega
    rw [h n h1 h2, List.getElem_take]
  · exact h' _ (by rw [List.length_take]; omega)
def badF (n : Nat) (f : GField) : Bool := decide (n < f.fName.length) || decide (n < f.fValue.length)
def keepF (l : List GField) : Bool := !((l.take 71).any (badF 300)) && decide (l.length ≤ 70)
theorem keep_Fields_eq (l : List GField) : keep_Fields l = some (keepF l) := by
  unfold keep_Fields keepF
  rw [while_keep l 71 (badF 300)]
  · have e : decide ((l.length : Int) ≤ 70) = decide (l.length ≤ 70) := le_nat l.length 70
    rw [e]
    cases (l.take 71).any (badF 300) <;> simp
  · intro n hn hm
    have e1 : decide ((n : Int) < 71) = true := lt_true hm
    have e2 : wr ((n : Int) + 1) = (n : Int) + 1 := by rw [wrs (by omega)]; omega
    simp only [keep_Fields_L0, lt_true hn, e1, Bool.and_self, bif_true, xnth_get hn, some_bind, e2]
    have e3 : decide (300 < ((l[n].fName.length : Nat) : Int)) = decide (300 < l[n].fName.length) := lt_nat 300 _
    have e4 : decide (300 < ((l[n].fValue.length : Nat) : Int)) = decide (300 < l[n].fValue.length) := lt_nat 300 _
    rw [e3, e4]
    unfold badF
    cases decide (300 < l[n].fName.length) <;> cases decide (300 < l[n].fValue.length) <;> rfl
  · intro n hn
    have : (decide ((n : Int) < (l.length : Int)) && decide ((n : Int) < 71)) = false := by
      rcases hn with hn | hn
      · rw [lt_false hn]; rfl
      · rw [show decide ((n : Int) < 71) = false from lt_false hn, Bool.and_false]
    simp only [keep_Fields_L0, this, bif_false]
theorem keepF_sm {l : List GField} (h : keepF l = true) : l.length ≤ 70 ∧ ∀ f ∈ l, f.fName.length ≤ 300 ∧ f.fValue.length ≤ 300 := by
  unfold keepF at h
  simp only [Bool.and_eq_true, Bool.not_eq_true', decide_eq_true_eq] at h
  refine ⟨h.2, fun f hf => ?_⟩
  rw [List.take_of_length_le (by omega)] at h
  have := List.any_eq_false.1 h.1 f hf
  simp only [badF, Bool.or_eq_true, decide_eq_true_eq] at this
  omega
def keepS (l : List Str) : Bool := !((l.take 21).any fun s => decide (100 < s.length)) && decide (l.length ≤ 20)
theorem keep_Strings_eq (l : List Str) : keep_Strings l = some (keepS l) := by
  unfold keep_Strings keepS
  rw [while_keep l 21 (fun s => decide (100 < s.length))]
  · have e : decide ((l.length : Int) ≤ 20) = decide (l.length ≤ 20) := le_nat l.length 20
    rw [e]
    cases (l.take 21).any (fun s => decide (100 < s.length)) <;> simp
  · intro n hn hm
    have e1 : decide ((n : Int) < 21) = true := lt_true hm
    have e2 : wr ((n : Int) + 1) = (n : Int) + 1 := by rw [wrs (by omega)]; omega
    simp only [keep_Strings_L0, lt_true hn, e1, Bool.and_self, bif_true, xnth_get hn, some_bind, e2]
    have e3 : decide (100 < ((l[n].length : Nat) : Int)) = decide (100 < l[n].length) := lt_nat 100 _
    rw [e3]
    cases decide (100 < l[n].length) <;> rfl
  · intro n hn
    have : (decide ((n : Int) < (l.length : Int)) && decide ((n : Int) < 21)) = false := by
      rcases hn with hn | hn
      · rw [lt_false hn]; rfl
      · rw [show decide ((n : Int) < 21) = false from lt_false hn, Bool.and_false]
    simp only [keep_Strings_L0, this, bif_false]
theorem keepS_sm {l : List Str} (h : keepS l = true) : l.length ≤ 20 ∧ ∀ s ∈ l, s.length ≤ 100 := by
  unfold keepS at h
  simp only [Bool.and_eq_true, Bool.not_eq_true', decide_eq_true_eq] at h
  refine ⟨h.2, fun f hf => ?_⟩
  rw [List.take_of_length_le (by omega)] at h
  have := List.any_eq_false.1 h.1 f hf
  simp only [decide_eq_true_eq] at this
  omega
end Go.Eng.Pure
