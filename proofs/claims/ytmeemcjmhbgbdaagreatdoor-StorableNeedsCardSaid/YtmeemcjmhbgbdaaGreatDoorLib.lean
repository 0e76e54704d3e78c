/- Plain lemmas: list operations that may fail, loops. No program stands in them. -/
import Derived.Test.YtmeemcjmhbgbdaaGreatDoorEng9
namespace Go.Eng
open Go

theorem xnth_nat {α : Type} (l : List α) (n : Nat) : xnth l (n : Int) = l[n]? := by
  unfold xnth; rw [if_pos (by omega)]; rfl
theorem xnth_cons {α : Type} (a : α) (l : List α) : xnth (a :: l) 0 = some a := rfl
theorem xnth_last {α : Type} (l : List α) (a : α) : xnth (l ++ [a]) (l.length : Int) = some a := by
  rw [xnth_nat]; simp
theorem xsub_some {α : Type} {l : List α} {i j : Int} (h : 0 ≤ i ∧ i ≤ j ∧ j ≤ l.length) : xsub l i j = some ((l.take j.toNat).drop i.toNat) := by
  unfold xsub; rw [if_pos h]
theorem xsub_nat {α : Type} {l : List α} {i j : Nat} (h : i ≤ j ∧ j ≤ l.length) : xsub l (i : Int) (j : Int) = some ((l.take j).drop i) := by
  rw [xsub_some ⟨by omega, by omega, by omega⟩]; rfl
theorem xapp_some {α : Type} {l k : List α} (h : l.length + k.length ≤ big) : xapp l k = some (l ++ k) := by
  unfold xapp; rw [if_pos h]
theorem wr_nat {n : Int} (h0 : -1000000000000000000 ≤ n) (h : n ≤ 1000000000000000000) : wr n = n := wr_eq ⟨by omega, by omega⟩
theorem bif_true {α : Type} (x y : α) : (bif true then x else y) = x := rfl
theorem bif_false {α : Type} (x y : α) : (bif false then x else y) = y := rfl
theorem some_bind {α β : Type} (a : α) (f : α → Option β) : (some a).bind f = f a := rfl

/-- A loop that counts up to the length and stops at the first byte that is bad. -/
theorem while_any {α ρ : Type} (body : Int → Option (Int ⊕ ρ)) (l : List α) (bad : α → Bool) (stop done : ρ)
    (h : ∀ (n : Nat) (hn : n < l.length), body (n : Int) = some (if bad l[n] = true then .inr stop else .inl ((n : Int) + 1)))
    (h' : body (l.length : Int) = some (.inr done)) : whileO body 0 = some (if l.any bad then stop else done) := by
  have key : ∀ (k n : Nat), n + k = l.length → whileO body (n : Int) = some (if (l.drop n).any bad then stop else done) := by
    intro k
    induction k with
    | zero =>
      intro n hn
      have : n = l.length := by omega
      subst this
      rw [whileO_done h']
      simp
    | succ k ih =>
      intro n hn
      have hlt : n < l.length := by omega
      have hb := h n hlt
      rw [List.drop_eq_getElem_cons hlt, List.any_cons]
      by_cases hbad : bad l[n] = true
      · rw [if_pos hbad] at hb
        rw [whileO_done hb, hbad]; simp
      · rw [if_neg hbad] at hb
        rw [whileO_next hb]
        have e : ((n : Int) + 1) = ((n + 1 : Nat) : Int) := by omega
        rw [e, ih (n + 1) (by omega)]
        simp [hbad]
  simpa using key l.length 0 (by omega)

/-! what is cut off at an end -/
def rtrim (p : UInt8 → Bool) (s : Str) : Str := (s.reverse.dropWhile p).reverse
def ltrim (p : UInt8 → Bool) (s : Str) : Str := s.dropWhile p
theorem rtrim_snoc (p : UInt8 → Bool) (s : Str) (c : UInt8) : rtrim p (s ++ [c]) = if p c then rtrim p s else s ++ [c] := by
  unfold rtrim
  rw [List.reverse_append]
  simp only [List.reverse_cons, List.reverse_nil, List.nil_append, List.singleton_append, List.dropWhile_cons]
  cases p c <;> simp
theorem rtrim_len (p : UInt8 → Bool) (s : Str) : (rtrim p s).length ≤ s.length := by
  unfold rtrim
  have := (List.dropWhile_sublist p (l := s.reverse)).length_le
  simpa using this
theorem ltrim_len (p : UInt8 → Bool) (s : Str) : (ltrim p s).length ≤ s.length := (List.dropWhile_sublist p).length_le
/-- A loop that cuts the last byte off while it is one of p. -/
theorem while_rtrim (body : Str → Option (Str ⊕ Str)) (p : UInt8 → Bool) (B : Nat) (h1 : ∀ (s : Str) (c : UInt8), s.length + 1 ≤ B → body (s ++ [c]) = some (if p c then .inl s else .inr (s ++ [c]))) (h0 : body [] = some (.inr [])) :
    ∀ (n : Nat) (s : Str), s.length = n → s.length ≤ B → whileO body s = some (rtrim p s) := by
  intro n
  induction n with
  | zero =>
    intro s hs _
    obtain rfl := List.eq_nil_of_length_eq_zero hs
    rw [whileO_done h0]; rfl
  | succ n ih =>
    intro s hs hB
    rcases List.eq_nil_or_concat s with rfl | ⟨t, c, rfl⟩
    · cases hs
    · rw [List.concat_eq_append] at hs hB ⊢
      simp only [List.length_append, List.length_cons, List.length_nil] at hs hB
      have hb := h1 t c (by omega)
      rw [rtrim_snoc]
      cases hp : p c with
      | true => rw [hp] at hb; rw [whileO_next (by simpa using hb), ih t (by omega) (by omega)]; simp
      | false => rw [hp] at hb; rw [whileO_done (by simpa using hb)]; simp
/-- A loop that cuts the first byte off while it is one of p. -/
theorem while_ltrim (body : Str → Option (Str ⊕ Str)) (p : UInt8 → Bool) (h1 : ∀ (s : Str) (c : UInt8), body (c :: s) = some (if p c then .inl s else .inr (c :: s))) (h0 : body [] = some (.inr [])) :
    ∀ (s : Str), whileO body s = some (ltrim p s) := by
  intro s
  induction s with
  | nil => rw [whileO_done h0]; rfl
  | cons c s ih =>
    have hb := h1 s c
    unfold ltrim
    rw [List.dropWhile_cons]
    cases hp : p c with
    | true => rw [hp] at hb; rw [whileO_next (by simpa using hb), ih]; rfl
    | false => rw [hp] at hb; rw [whileO_done (by simpa using hb)]; rfl
theorem xnth_lastw (s : Str) (c : UInt8) : xnth (s ++ [c]) (((s ++ [c]).length : Int) - 1) = some c := by
  have e : (((s ++ [c]).length : Int) - 1) = (s.length : Int) := by simp
  rw [e, xnth_last]
theorem xsub_lastw (s : Str) (c : UInt8) : xsub (s ++ [c]) 0 (((s ++ [c]).length : Int) - 1) = some s := by
  have e : (((s ++ [c]).length : Int) - 1) = (s.length : Int) := by simp
  rw [e, xsub_some ⟨by omega, by omega, by simp; omega⟩]
  simp
theorem wr_len1 {α : Type} (s : List α) (h : s.length ≤ 4 * big) : wr ((s.length : Int) - 1) = (s.length : Int) - 1 := wr_nat (by omega) (by simp only [big] at h; omega)
end Go.Eng
