/- The laws of layer 7, in plain words. -/
import Derived.Test.YtdijehmmnpofjaaDoorKeepP
namespace Go.Eng.Pure
open Go Go.Eng
set_option linter.unusedVariables false
theorem awake07 : law07_awake = some true := by
  unfold law07_awake
  rw [Split_eq _ (by decide), some_bind, SameStrings_eq _ _ (Nat.le_trans (split_len _) (by decide))]
  rfl
theorem smF_of0 {l : List GField} (h : keepF l = true) : l.length ≤ 1073741824 ∧ ∀ f ∈ l, smF f := by
  obtain ⟨h1, h2⟩ := keepF_sm h
  exact ⟨by omega, fun f hf => by have := h2 f hf; exact ⟨by omega, by omega⟩⟩
theorem allM_len0 (l : List GField) (name : Str) : (allM l name).length ≤ 64 := by
  unfold allM; rw [List.length_take]; omega
theorem ListAll_true (l : List GField) (name : Str) : law07_ListAll l name = some true := by
  unfold law07_ListAll
  rw [keep_Fields_eq, some_bind]
  cases hk : keepF l with
  | false => rfl
  | true =>
    obtain ⟨h1, h2⟩ := smF_of0 hk
    cases hn : decide (300 < (name.length : Int)) with
    | true => rfl
    | false =>
      have hn : name.length ≤ 1073741824 := by simp at hn; omega
      simp only [Bool.not_true, Bool.or_self, bif_false]
      rw [All_eq l name h1 h2 hn, RAll_eq l name h1 h2 hn]
      simp only [some_bind]
      rw [SameStrings_eq _ _ (Nat.le_trans (allM_len0 _ _) (by decide))]
      simp [awake07]
/-! Join -/
def join (l : List Str) : Str := Lib.join l [44, 32]
theorem join_cons2 (x : Str) (r : List Str) : join (x :: r) = x ++ (r.map ([44, 32] ++ ·)).flatten := Lib.join_cons x r [44, 32]
theorem join_snoc (l : List Str) (x : Str) : join (l ++ [x]) = (if l = [] then [] else join l ++ [44, 32]) ++ x := by
  cases l with
  | nil => simp [join_cons2]
  | cons y r => simp [join_cons2]
theorem join_len (l : List Str) (B : Nat) (h : ∀ s ∈ l, s.length ≤ B) : (join l).length ≤ (B + 2) * l.length := by
  have : ∀ r : List Str, (∀ s ∈ r, s.length ≤ B) → ((r.map ([44, 32] ++ ·)).flatten).length ≤ (B + 2) * r.length := by
    intro r
    induction r with
    | nil => intro _; simp
    | cons y r ih =>
      intro hr
      have h1 := ih fun s hs => hr s (List.mem_cons_of_mem _ hs)
      have h2 := hr y List.mem_cons_self
      rw [List.map_cons, List.flatten_cons, List.length_append, List.length_cons, Nat.mul_succ]
      have : (([44, 32] : Str) ++ y).length = y.length + 2 := by simp
      omega
  cases l with
  | nil => simp [join, Lib.join_nil]
  | cons x r =>
    have h1 := this r fun s hs => h s (List.mem_cons_of_mem _ hs)
    have h2 := h x List.mem_cons_self
    rw [join_cons2, List.length_append, List.length_cons, Nat.mul_succ]
    omega
theorem Join_eq (l : List Str) (h1 : l.length ≤ 1073741824) (h2 : (join l).length ≤ 1073741824) : list_Join l = some (join l) := by
  unfold list_Join strings_Join jo
  rw [if_pos ⟨by show (join l).length ≤ big; simp only [big]; omega, by simp only [big]; omega⟩]; rfl
theorem RJoin_eq (l : List Str) (h1 : l.length ≤ 1073741824) (h2 : (join l).length ≤ 1073741824) : ref01_Join l = some (join l) := by
  have hp : ∀ n, n ≤ l.length → (join (l.take n)).length ≤ (join l).length := by
    intro n hn
    cases l with
    | nil => simp
    | cons x r =>
      cases n with
      | zero => simp [join, Lib.join_nil]
      | succ n =>
        rw [List.take_succ_cons, join_cons2, join_cons2, List.map_take]
        rw [List.length_append, List.length_append]
        have : ∀ (r : List Str) n, (r.take n).flatten.length ≤ r.flatten.length := by
          intro r
          induction r with
          | nil => intro n; simp
          | cons y r ih =>
            intro n
            cases n with
            | zero => simp
            | succ n => have := ih n; simp only [List.take_succ_cons, List.flatten_cons, List.length_append]; omega
        exact Nat.add_le_add_left (this (r.map ([44, 32] ++ ·)) n) _
  have := while_count (fun n => (join (l.take n), (n : Int))) l.length (join l) (ref01_Join_L0 l) ?_ ?_
  · unfold ref01_Join
    have e : (([] : Str), (0 : Int)) = (join (l.take 0), ((0 : Nat) : Int)) := by simp [join, Lib.join_nil]
    rw [e, this]; rfl
  · intro n hn
    have h3 := hp n (by omega)
    have h4 := hp (n + 1) (by omega)
    have ht : l.take (n + 1) = l.take n ++ [l[n]] := take_succ_get hn
    have hj := join_snoc (l.take n) l[n]
    rw [← ht] at hj
    simp only [ref01_Join_L0, lt_true hn, bif_true, xnth_get hn, some_bind, wrs (show n ≤ 4 * 1073741824 by omega)]
    by_cases h0 : n = 0
    · subst h0
      have e1 : join (l.take 0) = [] := by simp [join, Lib.join_nil]
      rw [e1]
      have e2 : decide ((0 : Int) < ((0 : Nat) : Int)) = false := rfl
      rw [e2, bif_false, some_bind]
      rw [if_pos (by simp)] at hj
      rw [hj] at h4 ⊢
      rw [xcat_sm (by simp) (by simp at h4; omega)]
      rfl
    · have e2 : decide ((0 : Int) < (n : Int)) = true := by simp; omega
      have hne : l.take n ≠ [] := fun h => by
        have hl : (l.take n).length = 0 := by rw [h]; rfl
        rw [List.length_take] at hl
        omega
      rw [if_neg hne] at hj
      rw [hj, List.length_append, List.length_append] at h4
      rw [e2, bif_true, xcat_sm (by omega) (by decide), some_bind, some_bind, xcat_sm (by rw [List.length_append]; omega) (by omega), some_bind, hj]
  · simp only [ref01_Join_L0, lt_false (Nat.le_refl l.length), bif_false, List.take_length]
theorem ListSplits_true (s : Str) (l : List Str) : law07_ListSplits s l = some true := by
  unfold law07_ListSplits
  cases hs : decide (3000 < (s.length : Int)) with
  | true => rfl
  | false =>
    have hs : s.length ≤ 3000 := by simp at hs; omega
    rw [bif_false, keep_Strings_eq, some_bind]
    cases hk : keepS l with
    | false => rfl
    | true =>
      obtain ⟨h1, h2⟩ := keepS_sm hk
      have h3 := join_len l 100 h2
      have h4 : (join l).length ≤ 1073741824 := by have : (100 + 2) * l.length ≤ (100 + 2) * 20 := Nat.mul_le_mul_left _ h1; omega
      simp only [Bool.not_true, some_bind, bif_false]
      rw [Split_eq s (by omega), RSplit_eq s (by omega)]
      simp only [some_bind]
      rw [SameStrings_eq _ _ (Nat.le_trans (split_len _) (by decide)), Join_eq l (by omega) h4, RJoin_eq l (by omega) h4]
      simp [awake07]
end Go.Eng.Pure
