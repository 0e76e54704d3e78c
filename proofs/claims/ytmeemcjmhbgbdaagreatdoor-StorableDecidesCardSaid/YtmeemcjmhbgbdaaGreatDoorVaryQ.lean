/- Layer 19: the names that Vary gives: sorted, each once; the other two laws. -/
import Derived.Test.YtmeemcjmhbgbdaaGreatDoorVaryP
import Derived.Sort.Walk0
namespace Go.Eng.Pure
open Go Go.Eng
set_option linter.unusedVariables false
theorem sle_trans {a b c : Str} (h : a ≤ b) (h' : b ≤ c) : a ≤ c := List.le_trans h h'
theorem slt_trans {a b c : Str} (h : a < b) (h' : b < c) : a < c := List.lt_trans h h'
theorem slt_of_le_ne {a b : Str} (h : a ≤ b) (hn : a ≠ b) : a < b := by
  by_cases hl : a < b
  · exact hl
  · exact absurd (List.le_antisymm h (List.not_lt.1 hl)) hn
theorem sle_refl (a : Str) : a ≤ a := List.not_lt.1 (List.lt_irrefl a)
theorem slt_irrefl (a : Str) : ¬ a < a := List.lt_irrefl a
/-- ascending, each once -/
abbrev Asc (l : List Str) : Prop := l.Pairwise (· < ·)
theorem Asc.ext : ∀ {a b : List Str}, Asc a → Asc b → (∀ x, x ∈ a ↔ x ∈ b) → a = b
  | [], [], _, _, _ => rfl
  | [], y :: b, _, _, h => absurd ((h y).2 List.mem_cons_self) (by simp)
  | x :: a, [], _, _, h => absurd ((h x).1 List.mem_cons_self) (by simp)
  | x :: a, y :: b, ha, hb, h => by
    obtain ⟨ha1, ha2⟩ := List.pairwise_cons.1 ha
    obtain ⟨hb1, hb2⟩ := List.pairwise_cons.1 hb
    have hxy : x = y := by
      rcases List.mem_cons.1 ((h x).1 List.mem_cons_self) with h1 | h1
      · exact h1
      · rcases List.mem_cons.1 ((h y).2 List.mem_cons_self) with h2 | h2
        · exact h2.symm
        · exact absurd (slt_trans (hb1 x h1) (ha1 y h2)) (slt_irrefl y)
    subst hxy
    rw [Asc.ext ha2 hb2 fun z => ?_]
    constructor
    · intro hz
      rcases List.mem_cons.1 ((h z).1 (List.mem_cons_of_mem _ hz)) with h1 | h1
      · subst h1; exact absurd (ha1 z hz) (slt_irrefl z)
      · exact h1
    · intro hz
      rcases List.mem_cons.1 ((h z).2 (List.mem_cons_of_mem _ hz)) with h1 | h1
      · subst h1; exact absurd (hb1 z hz) (slt_irrefl z)
      · exact h1
/-! compact -/
theorem compUp (d : Array Str) (hs : d.toList.Pairwise (· ≤ ·)) : ∀ m, m ≤ d.size → Asc (Lib.compactUpTo d m) ∧ (∀ x ∈ Lib.compactUpTo d m, ∃ i, ∃ h : i < d.size, i < m ∧ x = d[i]) ∧ ∀ i, ∀ h : i < d.size, i < m → d[i] ∈ Lib.compactUpTo d m
  | 0, _ => ⟨by simp [Lib.compactUpTo], by simp [Lib.compactUpTo], by intro i _ h; omega⟩
  | m + 1, hm => by
    obtain ⟨i1, i2, i3⟩ := compUp d hs m (by omega)
    have hmd : m < d.size := by omega
    have le : ∀ i j, ∀ (hi : i < d.size) (hj : j < d.size), i ≤ j → d[i] ≤ d[j] := by
      intro i j hi hj hij
      by_cases h : i = j
      · subst h; exact sle_refl _
      · have := List.pairwise_iff_getElem.1 hs i j (by simpa using hi) (by simpa using hj) (by omega)
        simpa using this
    rw [Lib.compactUpTo_succ]
    have e1 : d[m]! = d[m] := getElem!_pos d m hmd
    by_cases hk : Lib.keeps d m = true
    · rw [if_pos hk, e1]
      refine ⟨?_, ?_, ?_⟩
      · rw [Asc, List.pairwise_append]
        refine ⟨i1, by simp, fun x hx y hy => ?_⟩
        rw [List.mem_singleton.1 hy]
        obtain ⟨i, hi, him, rfl⟩ := i2 x hx
        have hm0 : m ≠ 0 := by omega
        have hne : d[m] ≠ d[m - 1]'(by omega) := by
          unfold Lib.keeps at hk
          have := of_decide_eq_true hk
          rcases this with h | h
          · exact absurd h hm0
          · rw [e1, getElem!_pos d (m - 1) (by omega)] at h; exact h
        have h1 : d[m - 1]'(by omega) < d[m] := slt_of_le_ne (le _ _ _ _ (by omega)) (Ne.symm hne)
        exact List.lt_of_le_of_lt (le i (m - 1) hi (by omega) (by omega)) h1
      · intro x hx
        rcases List.mem_append.1 hx with hx | hx
        · obtain ⟨i, hi, him, rfl⟩ := i2 x hx
          exact ⟨i, hi, by omega, rfl⟩
        · exact ⟨m, hmd, by omega, List.mem_singleton.1 hx⟩
      · intro i hi him
        by_cases h : i = m
        · subst h; simp
        · exact List.mem_append_left _ (i3 i hi (by omega))
    · rw [if_neg hk, List.append_nil]
      have hk2 : ¬ (m = 0 ∨ d[m]! ≠ d[m - 1]!) := by
        intro h; exact hk (by unfold Lib.keeps; exact decide_eq_true h)
      have hm0 : m ≠ 0 := fun h => hk2 (.inl h)
      have he : d[m] = d[m - 1]'(by omega) := by
        have := Decidable.not_not.1 fun h => hk2 (.inr h)
        rw [e1, getElem!_pos d (m - 1) (by omega)] at this; exact this
      refine ⟨i1, fun x hx => ?_, fun i hi him => ?_⟩
      · obtain ⟨i, hi, him, rfl⟩ := i2 x hx
        exact ⟨i, hi, by omega, rfl⟩
      · by_cases h : i = m
        · subst h; rw [he]; exact i3 _ _ (by omega)
        · exact i3 i hi (by omega)
theorem sortS_asc (l : List Str) : (sortS l).Pairwise (· ≤ ·) := by
  have := List.pairwise_mergeSort (le := fun (x y : Str) => decide (x ≤ y)) (fun a b c h h' => by
    have h := of_decide_eq_true h; have h' := of_decide_eq_true h'
    exact decide_eq_true (sle_trans h h')) (fun a b => by
    rcases List.le_total a b with h | h
    · simp [h]
    · simp [h]) l
  exact this.imp fun h => of_decide_eq_true h
theorem names_spec (l : List Str) : Asc (Lib.compact (sortS l)) ∧ ∀ x, x ∈ Lib.compact (sortS l) ↔ x ∈ l := by
  obtain ⟨h1, h2, h3⟩ := compUp (sortS l).toArray (by simpa using sortS_asc l) (sortS l).length (by simp)
  refine ⟨h1, fun x => ?_⟩
  have hm : x ∈ sortS l ↔ x ∈ l := List.mem_mergeSort
  rw [← hm]
  constructor
  · intro hx
    obtain ⟨i, hi, _, rfl⟩ := h2 x hx
    simp
  · intro hx
    obtain ⟨i, hi, rfl⟩ := List.mem_iff_getElem.1 hx
    have := h3 i (by simpa using hi) hi
    show _ ∈ Lib.compactUpTo (sortS l).toArray (sortS l).length
    simpa using this
/-! the reference's insertion -/
def insR (x : Str) : List Str → List Str
  | [] => [x]
  | y :: r => if y < x then y :: insR x r else if y = x then y :: r else x :: y :: r
def cnt (x : Str) : List Str → Nat
  | [] => 0
  | y :: r => if y < x then cnt x r + 1 else 0
theorem cnt_le (x : Str) : ∀ l : List Str, cnt x l ≤ l.length
  | [] => Nat.le_refl _
  | y :: r => by
    have := cnt_le x r
    unfold cnt; split
    · simp; omega
    · simp
theorem cnt_lt (x : Str) : ∀ (l : List Str) (i : Nat) (h : i < l.length), i < cnt x l → l[i] < x
  | y :: r, 0, _, hc => by
    unfold cnt at hc
    split at hc
    · assumption
    · omega
  | y :: r, i + 1, h, hc => by
    unfold cnt at hc
    split at hc
    · exact cnt_lt x r i (by simpa using h) (by omega)
    · omega
theorem cnt_stop (x : Str) : ∀ (l : List Str) (h : cnt x l < l.length), ¬ l[cnt x l] < x
  | [], h => absurd h (by simp [cnt])
  | y :: r, h => by
    by_cases hy : y < x
    · have e : cnt x (y :: r) = cnt x r + 1 := by simp [cnt, hy]
      simp only [e, List.getElem_cons_succ]
      exact cnt_stop x r (by rw [e] at h; simpa using h)
    · have e : cnt x (y :: r) = 0 := by simp [cnt, hy]
      simp only [e, List.getElem_cons_zero]
      exact hy
theorem insR_eq (x : Str) : ∀ l : List Str, insR x l = if l[cnt x l]? = some x then l else l.take (cnt x l) ++ x :: l.drop (cnt x l)
  | [] => by simp [insR, cnt]
  | y :: r => by
    by_cases hy : y < x
    · have e : cnt x (y :: r) = cnt x r + 1 := by simp [cnt, hy]
      rw [e, List.getElem?_cons_succ, List.take_succ_cons, List.drop_succ_cons]
      simp only [insR, if_pos hy]
      rw [insR_eq x r]
      split
      · rfl
      · simp
    · have e : cnt x (y :: r) = 0 := by simp [cnt, hy]
      rw [e]
      simp only [insR, if_neg hy, List.getElem?_cons_zero, Option.some.injEq, List.take_zero, List.drop_zero, List.nil_append]
theorem insR_mem (x : Str) : ∀ (l : List Str) (z : Str), z ∈ insR x l ↔ z = x ∨ z ∈ l
  | [], z => by simp [insR]
  | y :: r, z => by
    unfold insR
    split
    · rw [List.mem_cons, insR_mem x r z, List.mem_cons]
      constructor
      · rintro (h | h | h)
        · exact .inr (.inl h)
        · exact .inl h
        · exact .inr (.inr h)
      · rintro (h | h | h)
        · exact .inr (.inl h)
        · exact .inl h
        · exact .inr (.inr h)
    · split
      · rename_i h
        subst h
        rw [List.mem_cons]
        constructor
        · exact fun h => .inr h
        · rintro (h | h)
          · exact .inl h
          · exact h
      · rw [List.mem_cons]
theorem insR_asc (x : Str) : ∀ l : List Str, Asc l → Asc (insR x l)
  | [], _ => by simp [insR, Asc]
  | y :: r, h => by
    obtain ⟨h1, h2⟩ := List.pairwise_cons.1 h
    unfold insR
    split
    · rename_i hy
      refine List.pairwise_cons.2 ⟨fun z hz => ?_, insR_asc x r h2⟩
      rcases (insR_mem x r z).1 hz with rfl | hz
      · exact hy
      · exact h1 z hz
    · split
      · exact h
      · rename_i hy hne
        have hxy : x < y := slt_of_le_ne (List.not_lt.1 hy) (Ne.symm hne)
        refine List.pairwise_cons.2 ⟨fun z hz => ?_, h⟩
        rcases List.mem_cons.1 hz with rfl | hz
        · exact hxy
        · exact slt_trans hxy (h1 z hz)
theorem insR_len (x : Str) (l : List Str) : (insR x l).length ≤ l.length + 1 := by
  rw [insR_eq]
  split
  · omega
  · have := cnt_le x l
    simp; omega
def insAll (out : List Str) (l : List Str) : List Str := l.foldl (fun o x => insR x o) out
theorem insAll_spec : ∀ (l out : List Str), Asc out → Asc (insAll out l) ∧ ∀ z, z ∈ insAll out l ↔ z ∈ out ∨ z ∈ l
  | [], out, h => ⟨h, fun z => by simp [insAll]⟩
  | x :: l, out, h => by
    obtain ⟨h1, h2⟩ := insAll_spec l (insR x out) (insR_asc x out h)
    refine ⟨h1, fun z => ?_⟩
    have := h2 z
    show z ∈ insAll (insR x out) l ↔ _
    rw [this, insR_mem, List.mem_cons]
    constructor
    · rintro ((h | h) | h)
      · exact .inr (.inl h)
      · exact .inl h
      · exact .inr (.inr h)
    · rintro (h | h | h)
      · exact .inl (.inr h)
      · exact .inl (.inl h)
      · exact .inr h
theorem names_same (l : List Str) : Lib.compact (sortS l) = insAll [] l := by
  obtain ⟨h1, h2⟩ := names_spec l
  obtain ⟨h3, h4⟩ := insAll_spec l [] List.Pairwise.nil
  exact Asc.ext h1 h3 fun x => by rw [h2, h4]; simp
/-! the loops -/
def badN (m : Str) : Bool := !tok m || m == [42]
theorem Names_loop (l : List Str) (hl : l.length ≤ 64) (hm : ∀ m ∈ l, m.length ≤ 1000) : ∀ (k i : Nat) (out : List Str), i + k = l.length → out.length ≤ i → whileO (vary_Names_L0 l) (out, (i : Int)) = some (if (l.drop i).any badN then .inr ([], false) else .inl (out ++ (l.drop i).map lower))
  | 0, i, out, hi, ho => by
    obtain rfl : i = l.length := by omega
    have hb : vary_Names_L0 l (out, (l.length : Int)) = some (.inr (.inl out)) := by
      simp only [vary_Names_L0, lt_false (Nat.le_refl l.length), bif_false]
    rw [whileO_done hb]; simp
  | k + 1, i, out, hi, ho => by
    have hlt : i < l.length := by omega
    have hmi := hm _ (List.getElem_mem hlt)
    have hb : vary_Names_L0 l (out, (i : Int)) = some (if badN l[i] then .inr (.inr ([], false)) else .inl (out ++ [lower l[i]], ((i + 1 : Nat) : Int))) := by
      simp only [vary_Names_L0, lt_true hlt, bif_true, xnth_get hlt, some_bind, Token_eq _ (show l[i].length ≤ 1073741824 by omega), Lower_eq _ (show l[i].length ≤ 1073741824 by omega), wrs (show i ≤ 4 * 1073741824 by omega)]
      rw [xapp_sm (by omega) (one_sm _)]
      unfold badN
      cases (!tok l[i] || l[i] == [42]) <;> rfl
    rw [List.drop_eq_getElem_cons hlt, List.any_cons, List.map_cons]
    cases hbad : badN l[i] with
    | true =>
      rw [hbad] at hb
      rw [whileO_done hb]; rfl
    | false =>
      rw [hbad] at hb
      rw [whileO_next hb, Names_loop l hl hm k (i + 1) _ (by omega) (by simp; omega)]
      simp
theorem cnt_loop (out : List Str) (x : Str) (ho : out.length ≤ 64) : ∀ (k i : Nat), i + k = cnt x out → whileO (ref19_VaryNames_L0 out x) (i : Int) = some (cnt x out : Int)
  | 0, i, hi => by
    obtain rfl : i = cnt x out := by omega
    have hb : ref19_VaryNames_L0 out x (cnt x out : Int) = some (.inr (cnt x out : Int)) := by
      by_cases hlt : cnt x out < out.length
      · have := cnt_stop x out hlt
        simp only [ref19_VaryNames_L0, lt_true hlt, bif_true, xnth_get hlt, some_bind, Proofs.bytesLess_eq, decide_eq_false this, bif_false]
      · simp only [ref19_VaryNames_L0, lt_false (Nat.not_lt.1 hlt), bif_false, some_bind]
    rw [whileO_done hb]
  | k + 1, i, hi => by
    have hc := cnt_le x out
    have hlt : i < out.length := by omega
    have := cnt_lt x out i hlt (by omega)
    have hb : ref19_VaryNames_L0 out x (i : Int) = some (.inl ((i + 1 : Nat) : Int)) := by
      simp only [ref19_VaryNames_L0, lt_true hlt, bif_true, xnth_get hlt, some_bind, Proofs.bytesLess_eq, decide_eq_true this, wrs (show i ≤ 4 * 1073741824 by omega)]
    rw [whileO_next hb, cnt_loop out x ho k (i + 1) (by omega)]
theorem RNames_loop (l : List Str) (hl : l.length ≤ 64) (hm : ∀ m ∈ l, m.length ≤ 1000) : ∀ (k i : Nat) (out : List Str), i + k = l.length → out.length ≤ i → whileO (ref19_VaryNames_L1 l) (out, (i : Int)) = some (if (l.drop i).any badN then .inr ([], false) else .inl (insAll out ((l.drop i).map lower)))
  | 0, i, out, hi, ho => by
    obtain rfl : i = l.length := by omega
    have hb : ref19_VaryNames_L1 l (out, (l.length : Int)) = some (.inr (.inl out)) := by
      simp only [ref19_VaryNames_L1, lt_false (Nat.le_refl l.length), bif_false]
    rw [whileO_done hb]; simp [insAll]
  | k + 1, i, out, hi, ho => by
    have hlt : i < l.length := by omega
    have hmi := hm _ (List.getElem_mem hlt)
    have hb : ref19_VaryNames_L1 l (out, (i : Int)) = some (if badN l[i] then .inr (.inr ([], false)) else .inl (insR (lower l[i]) out, ((i + 1 : Nat) : Int))) := by
      have hcl : cnt (lower l[i]) out ≤ out.length := cnt_le _ _
      simp only [ref19_VaryNames_L1, lt_true hlt, bif_true, xnth_get hlt, some_bind, RToken_eq _ (show l[i].length ≤ 1073741824 by omega), RLower_eq _ (show l[i].length ≤ 1073741824 by omega), wrs (show i ≤ 4 * 1073741824 by omega)]
      have h0 := cnt_loop out (lower l[i]) (by omega) (cnt (lower l[i]) out) 0 (by omega)
      rw [show (0 : Int) = ((0 : Nat) : Int) from rfl, h0, insR_eq]
      simp only [some_bind]
      generalize lower l[i] = x at hcl ⊢
      generalize cnt x out = c at hcl ⊢
      have hsub1 : xsub out ((0 : Nat) : Int) (c : Int) = some (out.take c) := xsub_to hcl
      have hsub2 : xsub out (c : Int) (out.length : Int) = some (out.drop c) := xsub_from hcl
      rw [hsub1, hsub2]
      simp only [some_bind]
      rw [xapp_sm (by simp) (by simp; omega)]
      simp only [some_bind, List.nil_append]
      rw [xapp_sm (by simp; omega) (one_sm _)]
      simp only [some_bind]
      rw [xapp_sm (by simp; omega) (by simp; omega)]
      simp only [some_bind]
      have hin : ((bif decide ((c : Int) < (out.length : Int)) then (xnth out (c : Int)).bind fun x78 => some (x78 == x) else some false) : Option Bool) = some (decide (out[c]? = some x)) := by
        by_cases hc : c < out.length
        · rw [lt_true hc, xnth_get hc, List.getElem?_eq_getElem hc]
          simp only [bif_true, some_bind, Option.some.injEq]
          by_cases he : out[c] = x
          · simp [he]
          · simp [he]
        · rw [lt_false (Nat.not_lt.1 hc), List.getElem?_eq_none (Nat.not_lt.1 hc)]
          simp
      rw [hin]
      simp only [some_bind]
      unfold badN
      by_cases he : out[c]? = some x
      · rw [if_pos he, decide_eq_true he]
        cases tok l[i] <;> cases (l[i] == [42]) <;> rfl
      · rw [if_neg he, decide_eq_false he]
        cases tok l[i] <;> cases (l[i] == [42]) <;> simp
    rw [List.drop_eq_getElem_cons hlt, List.any_cons, List.map_cons]
    cases hbad : badN l[i] with
    | true =>
      rw [hbad] at hb
      rw [whileO_done hb]; rfl
    | false =>
      rw [hbad] at hb
      rw [whileO_next hb, RNames_loop l hl hm k (i + 1) _ (by omega) (by have := insR_len (lower l[i]) out; omega)]
      simp [insAll]
def varyN : Str := [86, 97, 114, 121]
def namesF (l : List GField) : List Str × Bool :=
  if 64 ≤ (allM l varyN).length ∨ (allM l varyN).any badN = true then ([], false) else (Lib.compact (sortS ((allM l varyN).map lower)), true)
end Go.Eng.Pure
