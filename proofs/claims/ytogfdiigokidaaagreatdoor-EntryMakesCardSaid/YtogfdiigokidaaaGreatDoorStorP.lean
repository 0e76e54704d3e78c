/- A part of the proof of laws of the seat. -/
import Derived.Test.YtogfdiigokidaaaGreatDoorVaryP
import Derived.Sort.Walk0
import Derived.Lib.ItoaNum
import Derived.Test.YtogfdiigokidaaaGreatDoorListP
namespace Go.Eng.Pure
open Go Go.Eng
set_option linter.unusedVariables false
theorem sle_trans {a b c : Str} (h : a ≤ b) (h' : b ≤ c) : a ≤ c := List.le_trans h h'
theorem slt_trans {a b c : Str} (h : a < b) (h' : b < c) : a < c := List.lt_trans h h'
theorem slt_of_le_ne {a b : Str} (h : a ≤ b) (hn : a ≠ b) : a < b := by
  by_cases hl : a < b
  · exact hl
  · exact absurd (List.le_antisymm h (List.not_lt.1 hl)) hn
theorem sle_refl (a : Str) : a ≤ a := List.not_lt.1 (List.lt_irrefl a)
theorem slt_irrefl (a : Str) : ¬ a < a := List.lt_irrefl a
abbrev Asc (l : List Str) : Prop := l.Pairwise (· < ·)
theorem Asc.ext : ∀ {a b : List Str}, Asc a → Asc b → (∀ x, x ∈ a ↔ x ∈ b) → a = b
  | [], [], _, _, _ => rfl
  | [], y :: b, _, _, h => absurd ((h y).2 List.mem_cons_self) (by simp)
  | x :: a, [], _, _, h => absurd ((h x).1 List.mem_cons_self) (by simp)
  | x :: a, y :: b, ha, hb, h => by
    obtain ⟨ha1, ha2⟩ := List.pairwise_cons.1 ha
    obtain ⟨hb1, hb2⟩ := List.pairwise_cons.1 hb
    have hxy : x = y := by
      rcases List.mem_cons.1 ((h x).1 List.mem_cons_self) with h1 | h1
      · exact h1
      · rcases List.mem_cons.1 ((h y).2 List.mem_cons_self) with h2 | h2
        · exact h2.symm
        · exact absurd (slt_trans (hb1 x h1) (ha1 y h2)) (slt_irrefl y)
    subst hxy
    rw [Asc.ext ha2 hb2 fun z => ?_]
    constructor
    · intro hz
      rcases List.mem_cons.1 ((h z).1 (List.mem_cons_of_mem _ hz)) with h1 | h1
      · subst h1; exact absurd (ha1 z hz) (slt_irrefl z)
      · exact h1
    · intro hz
      rcases List.mem_cons.1 ((h z).2 (List.mem_cons_of_mem _ hz)) with h1 | h1
      · subst h1; exact absurd (hb1 z hz) (slt_irrefl z)
      · exact h1
theorem compUp (d : Array Str) (hs : d.toList.Pairwise (· ≤ ·)) : ∀ m, m ≤ d.size → Asc (Lib.compactUpTo d m) ∧ (∀ x ∈ Lib.compactUpTo d m, ∃ i, ∃ h : i < d.size, i < m ∧ x = d[i]) ∧ ∀ i, ∀ h : i < d.size, i < m → d[i] ∈ Lib.compactUpTo d m
  | 0, _ => ⟨by simp [Lib.compactUpTo], by simp [Lib.compactUpTo], by intro i _ h; omega⟩
  | m + 1, hm => by
    obtain ⟨i1, i2, i3⟩ := compUp d hs m (by omega)
    have hmd : m < d.size := by omega
    have le : ∀ i j, ∀ (hi : i < d.size) (hj : j < d.size), i ≤ j → d[i] ≤ d[j] := by
      intro i j hi hj hij
      by_cases h : i = j
      · subst h; exact sle_refl _
      · have := List.pairwise_iff_getElem.1 hs i j (by simpa using hi) (by simpa using hj) (by omega)
        simpa using this
    rw [Lib.compactUpTo_succ]
    have e1 : d[m]! = d[m] := getElem!_pos d m hmd
    by_cases hk : Lib.keeps d m = true
    · rw [if_pos hk, e1]
      refine ⟨?_, ?_, ?_⟩
      · rw [Asc, List.pairwise_append]
        refine ⟨i1, by simp, fun x hx y hy => ?_⟩
        rw [List.mem_singleton.1 hy]
        obtain ⟨i, hi, him, rfl⟩ := i2 x hx
        have hm0 : m ≠ 0 := by omega
        have hne : d[m] ≠ d[m - 1]'(by omega) := by
          unfold Lib.keeps at hk
          have := of_decide_eq_true hk
          rcases this with h | h
          · exact absurd h hm0
          · rw [e1, getElem!_pos d (m - 1) (by omega)] at h; exact h
        have h1 : d[m - 1]'(by omega) < d[m] := slt_of_le_ne (le _ _ _ _ (by omega)) (Ne.symm hne)
        exact List.lt_of_le_of_lt (le i (m - 1) hi (by omega) (by omega)) h1
      · intro x hx
        rcases List.mem_append.1 hx with hx | hx
        · obtain ⟨i, hi, him, rfl⟩ := i2 x hx
          exact ⟨i, hi, by omega, rfl⟩
        · exact ⟨m, hmd, by omega, List.mem_singleton.1 hx⟩
      · intro i hi him
        by_cases h : i = m
        · subst h; simp
        · exact List.mem_append_left _ (i3 i hi (by omega))
    · rw [if_neg hk, List.append_nil]
      have hk2 : ¬ (m = 0 ∨ d[m]! ≠ d[m - 1]!) := by
        intro h; exact hk (by unfold Lib.keeps; exact decide_eq_true h)
      have hm0 : m ≠ 0 := fun h => hk2 (.inl h)
      have he : d[m] = d[m - 1]'(by omega) := by
        have := Decidable.not_not.1 fun h => hk2 (.inr h)
        rw [e1, getElem!_pos d (m - 1) (by omega)] at this; exact this
      refine ⟨i1, fun x hx => ?_, fun i hi him => ?_⟩
      · obtain ⟨i, hi, him, rfl⟩ := i2 x hx
        exact ⟨i, hi, by omega, rfl⟩
      · by_cases h : i = m
        · subst h; rw [he]; exact i3 _ _ (by omega)
        · exact i3 i hi (by omega)
theorem sortS_asc (l : List Str) : (sortS l).Pairwise (· ≤ ·) := by
  have := List.pairwise_mergeSort (le := fun (x y : Str) => decide (x ≤ y)) (fun a b c h h' => by
    have h := of_decide_eq_true h; have h' := of_decide_eq_true h'
    exact decide_eq_true (sle_trans h h')) (fun a b => by
    rcases List.le_total a b with h | h
    · simp [h]
    · simp [h]) l
  exact this.imp fun h => of_decide_eq_true h
theorem names_spec (l : List Str) : Asc (Lib.compact (sortS l)) ∧ ∀ x, x ∈ Lib.compact (sortS l) ↔ x ∈ l := by
  obtain ⟨h1, h2, h3⟩ := compUp (sortS l).toArray (by simpa using sortS_asc l) (sortS l).length (by simp)
  refine ⟨h1, fun x => ?_⟩
  have hm : x ∈ sortS l ↔ x ∈ l := List.mem_mergeSort
  rw [← hm]
  constructor
  · intro hx
    obtain ⟨i, hi, _, rfl⟩ := h2 x hx
    simp
  · intro hx
    obtain ⟨i, hi, rfl⟩ := List.mem_iff_getElem.1 hx
    have := h3 i (by simpa using hi) hi
    show _ ∈ Lib.compactUpTo (sortS l).toArray (sortS l).length
    simpa using this
def insR (x : Str) : List Str → List Str
  | [] => [x]
  | y :: r => if y < x then y :: insR x r else if y = x then y :: r else x :: y :: r
def cnt (x : Str) : List Str → Nat
  | [] => 0
  | y :: r => if y < x then cnt x r + 1 else 0
theorem cnt_le (x : Str) : ∀ l : List Str, cnt x l ≤ l.length
  | [] => Nat.le_refl _
  | y :: r => by
    have := cnt_le x r
    unfold cnt; split
    · simp; omega
    · simp
theorem cnt_lt (x : Str) : ∀ (l : List Str) (i : Nat) (h : i < l.length), i < cnt x l → l[i] < x
  | y :: r, 0, _, hc => by
    unfold cnt at hc
    split at hc
    · assumption
    · omega
  | y :: r, i + 1, h, hc => by
    unfold cnt at hc
    split at hc
    · exact cnt_lt x r i (by simpa using h) (by omega)
    · omega
theorem cnt_stop (x : Str) : ∀ (l : List Str) (h : cnt x l < l.length), ¬ l[cnt x l] < x
  | [], h => absurd h (by simp [cnt])
  | y :: r, h => by
    by_cases hy : y < x
    · have e : cnt x (y :: r) = cnt x r + 1 := by simp [cnt, hy]
      simp only [e, List.getElem_cons_succ]
      exact cnt_stop x r (by rw [e] at h; simpa using h)
    · have e : cnt x (y :: r) = 0 := by simp [cnt, hy]
      simp only [e, List.getElem_cons_zero]
      exact hy
theorem insR_eq (x : Str) : ∀ l : List Str, insR x l = if l[cnt x l]? = some x then l else l.take (cnt x l) ++ x :: l.drop (cnt x l)
  | [] => by simp [insR, cnt]
  | y :: r => by
    by_cases hy : y < x
    · have e : cnt x (y :: r) = cnt x r + 1 := by simp [cnt, hy]
      rw [e, List.getElem?_cons_succ, List.take_succ_cons, List.drop_succ_cons]
      simp only [insR, if_pos hy]
      rw [insR_eq x r]
      split
      · rfl
      · simp
    · have e : cnt x (y :: r) = 0 := by simp [cnt, hy]
      rw [e]
      simp only [insR, if_neg hy, List.getElem?_cons_zero, Option.some.injEq, List.take_zero, List.drop_zero, List.nil_append]
theorem insR_mem (x : Str) : ∀ (l : List Str) (z : Str), z ∈ insR x l ↔ z = x ∨ z ∈ l
  | [], z => by simp [insR]
  | y :: r, z => by
    unfold insR
    split
    · rw [List.mem_cons, insR_mem x r z, List.mem_cons]
      constructor
      · rintro (h | h | h)
        · exact .inr (.inl h)
        · exact .inl h
        · exact .inr (.inr h)
      · rintro (h | h | h)
        · exact .inr (.inl h)
        · exact .inl h
        · exact .inr (.inr h)
    · split
      · rename_i h
        subst h
        rw [List.mem_cons]
        constructor
        · exact fun h => .inr h
        · rintro (h | h)
          · exact .inl h
          · exact h
      · rw [List.mem_cons]
theorem insR_asc (x : Str) : ∀ l : List Str, Asc l → Asc (insR x l)
  | [], _ => by simp [insR, Asc]
  | y :: r, h => by
    obtain ⟨h1, h2⟩ := List.pairwise_cons.1 h
    unfold insR
    split
    · rename_i hy
      refine List.pairwise_cons.2 ⟨fun z hz => ?_, insR_asc x r h2⟩
      rcases (insR_mem x r z).1 hz with rfl | hz
      · exact hy
      · exact h1 z hz
    · split
      · exact h
      · rename_i hy hne
        have hxy : x < y := slt_of_le_ne (List.not_lt.1 hy) (Ne.symm hne)
        refine List.pairwise_cons.2 ⟨fun z hz => ?_, h⟩
        rcases List.mem_cons.1 hz with rfl | hz
        · exact hxy
        · exact slt_trans hxy (h1 z hz)
theorem insR_len (x : Str) (l : List Str) : (insR x l).length ≤ l.length + 1 := by
  rw [insR_eq]
  split
  · omega
  · have := cnt_le x l
    simp; omega
def insAll (out : List Str) (l : List Str) : List Str := l.foldl (fun o x => insR x o) out
theorem insAll_spec : ∀ (l out : List Str), Asc out → Asc (insAll out l) ∧ ∀ z, z ∈ insAll out l ↔ z ∈ out ∨ z ∈ l
  | [], out, h => ⟨h, fun z => by simp [insAll]⟩
  | x :: l, out, h => by
    obtain ⟨h1, h2⟩ := insAll_spec l (insR x out) (insR_asc x out h)
    refine ⟨h1, fun z => ?_⟩
    have := h2 z
    show z ∈ insAll (insR x out) l ↔ _
    rw [this, insR_mem, List.mem_cons]
    constructor
    · rintro ((h | h) | h)
      · exact .inr (.inl h)
      · exact .inl h
      · exact .inr (.inr h)
    · rintro (h | h | h)
      · exact .inl (.inr h)
      · exact .inl (.inl h)
      · exact .inr h
theorem names_same (l : List Str) : Lib.compact (sortS l) = insAll [] l := by
  obtain ⟨h1, h2⟩ := names_spec l
  obtain ⟨h3, h4⟩ := insAll_spec l [] List.Pairwise.nil
  exact Asc.ext h1 h3 fun x => by rw [h2, h4]; simp
def badN (m : Str) : Bool := !tok m || m == [42]
theorem Names_loop (l : List Str) (hl : l.length ≤ 64) (hm : ∀ m ∈ l, m.length ≤ 1000) : ∀ (k i : Nat) (out : List Str), i + k = l.length → out.length ≤ i → whileO (vary_Names_L0 l) (out, (i : Int)) = some (if (l.drop i).any badN then .inr ([], false) else .inl (out ++ (l.drop i).map lower))
  | 0, i, out, hi, ho => by
    obtain rfl : i = l.length := by omega
    have hb : vary_Names_L0 l (out, (l.length : Int)) = some (.inr (.inl out)) := by
      simp only [vary_Names_L0, lt_false (Nat.le_refl l.length), bif_false]
    rw [whileO_done hb]; simp
  | k + 1, i, out, hi, ho => by
    have hlt : i < l.length := by omega
    have hmi := hm _ (List.getElem_mem hlt)
    have hb : vary_Names_L0 l (out, (i : Int)) = some (if badN l[i] then .inr (.inr ([], false)) else .inl (out ++ [lower l[i]], ((i + 1 : Nat) : Int))) := by
      simp only [vary_Names_L0, lt_true hlt, bif_true, xnth_get hlt, some_bind, Token_eq _ (show l[i].length ≤ 1073741824 by omega), Lower_eq _ (show l[i].length ≤ 1073741824 by omega), wrs (show i ≤ 4 * 1073741824 by omega)]
      rw [xapp_sm (by omega) (one_sm _)]
      unfold badN
      cases (!tok l[i] || l[i] == [42]) <;> rfl
    rw [List.drop_eq_getElem_cons hlt, List.any_cons, List.map_cons]
    cases hbad : badN l[i] with
    | true =>
      rw [hbad] at hb
      rw [whileO_done hb]; rfl
    | false =>
      rw [hbad] at hb
      rw [whileO_next hb, Names_loop l hl hm k (i + 1) _ (by omega) (by simp; omega)]
      simp
theorem cnt_loop (out : List Str) (x : Str) (ho : out.length ≤ 64) : ∀ (k i : Nat), i + k = cnt x out → whileO (ref19_VaryNames_L0 out x) (i : Int) = some (cnt x out : Int)
  | 0, i, hi => by
    obtain rfl : i = cnt x out := by omega
    have hb : ref19_VaryNames_L0 out x (cnt x out : Int) = some (.inr (cnt x out : Int)) := by
      by_cases hlt : cnt x out < out.length
      · have := cnt_stop x out hlt
        simp only [ref19_VaryNames_L0, lt_true hlt, bif_true, xnth_get hlt, some_bind, Proofs.bytesLess_eq, decide_eq_false this, bif_false]
      · simp only [ref19_VaryNames_L0, lt_false (Nat.not_lt.1 hlt), bif_false, some_bind]
    rw [whileO_done hb]
  | k + 1, i, hi => by
    have hc := cnt_le x out
    have hlt : i < out.length := by omega
    have := cnt_lt x out i hlt (by omega)
    have hb : ref19_VaryNames_L0 out x (i : Int) = some (.inl ((i + 1 : Nat) : Int)) := by
      simp only [ref19_VaryNames_L0, lt_true hlt, bif_true, xnth_get hlt, some_bind, Proofs.bytesLess_eq, decide_eq_true this, wrs (show i ≤ 4 * 1073741824 by omega)]
    rw [whileO_next hb, cnt_loop out x ho k (i + 1) (by omega)]
theorem RNames_loop (l : List Str) (hl : l.length ≤ 64) (hm : ∀ m ∈ l, m.length ≤ 1000) : ∀ (k i : Nat) (out : List Str), i + k = l.length → out.length ≤ i → whileO (ref19_VaryNames_L1 l) (out, (i : Int)) = some (if (l.drop i).any badN then .inr ([], false) else .inl (insAll out ((l.drop i).map lower)))
  | 0, i, out, hi, ho => by
    obtain rfl : i = l.length := by omega
    have hb : ref19_VaryNames_L1 l (out, (l.length : Int)) = some (.inr (.inl out)) := by
      simp only [ref19_VaryNames_L1, lt_false (Nat.le_refl l.length), bif_false]
    rw [whileO_done hb]; simp [insAll]
  | k + 1, i, out, hi, ho => by
    have hlt : i < l.length := by omega
    have hmi := hm _ (List.getElem_mem hlt)
    have hb : ref19_VaryNames_L1 l (out, (i : Int)) = some (if badN l[i] then .inr (.inr ([], false)) else .inl (insR (lower l[i]) out, ((i + 1 : Nat) : Int))) := by
      have hcl : cnt (lower l[i]) out ≤ out.length := cnt_le _ _
      simp only [ref19_VaryNames_L1, lt_true hlt, bif_true, xnth_get hlt, some_bind, RToken_eq _ (show l[i].length ≤ 1073741824 by omega), RLower_eq _ (show l[i].length ≤ 1073741824 by omega), wrs (show i ≤ 4 * 1073741824 by omega)]
      have h0 := cnt_loop out (lower l[i]) (by omega) (cnt (lower l[i]) out) 0 (by omega)
      rw [show (0 : Int) = ((0 : Nat) : Int) from rfl, h0, insR_eq]
      simp only [some_bind]
      generalize lower l[i] = x at hcl ⊢
      generalize cnt x out = c at hcl ⊢
      have hsub1 : xsub out ((0 : Nat) : Int) (c : Int) = some (out.take c) := xsub_to hcl
      have hsub2 : xsub out (c : Int) (out.length : Int) = some (out.drop c) := xsub_from hcl
      rw [hsub1, hsub2]
      simp only [some_bind]
      rw [xapp_sm (by simp) (by simp; omega)]
      simp only [some_bind, List.nil_append]
      rw [xapp_sm (by simp; omega) (one_sm _)]
      simp only [some_bind]
      rw [xapp_sm (by simp; omega) (by simp; omega)]
      simp only [some_bind]
      have hin : ((bif decide ((c : Int) < (out.length : Int)) then (xnth out (c : Int)).bind fun x78 => some (x78 == x) else some false) : Option Bool) = some (decide (out[c]? = some x)) := by
        by_cases hc : c < out.length
        · rw [lt_true hc, xnth_get hc, List.getElem?_eq_getElem hc]
          simp only [bif_true, some_bind, Option.some.injEq]
          by_cases he : out[c] = x
          · simp [he]
          · simp [he]
        · rw [lt_false (Nat.not_lt.1 hc), List.getElem?_eq_none (Nat.not_lt.1 hc)]
          simp
      rw [hin]
      simp only [some_bind]
      unfold badN
      by_cases he : out[c]? = some x
      · rw [if_pos he, decide_eq_true he]
        cases tok l[i] <;> cases (l[i] == [42]) <;> rfl
      · rw [if_neg he, decide_eq_false he]
        cases tok l[i] <;> cases (l[i] == [42]) <;> simp
    rw [List.drop_eq_getElem_cons hlt, List.any_cons, List.map_cons]
    cases hbad : badN l[i] with
    | true =>
      rw [hbad] at hb
      rw [whileO_done hb]; rfl
    | false =>
      rw [hbad] at hb
      rw [whileO_next hb, RNames_loop l hl hm k (i + 1) _ (by omega) (by have := insR_len (lower l[i]) out; omega)]
      simp [insAll]
def varyN : Str := [86, 97, 114, 121]
def namesF (l : List GField) : List Str × Bool :=
  if 64 ≤ (allM l varyN).length ∨ (allM l varyN).any badN = true then ([], false) else (Lib.compact (sortS ((allM l varyN).map lower)), true)
theorem allV_sm {l : List GField} (h : smL l) : (allM l varyN).length ≤ 64 ∧ ∀ m ∈ allM l varyN, m.length ≤ 300 :=
  ⟨allM_len l _, allM_sm l _ 300 fun f hf => (h.2 f hf).2⟩
theorem Names_eq (l : List GField) (hl : smL l) : vary_Names l = some (namesF l) := by
  obtain ⟨h1, h2⟩ := smL_F hl
  obtain ⟨a1, a2⟩ := allV_sm hl
  unfold vary_Names namesF
  rw [All_eq l _ h1 h2 (by decide), some_bind]
  unfold varyN at a1 a2 ⊢
  generalize allM l [86, 97, 114, 121] = ms at a1 a2 ⊢
  rw [show decide ((64 : Int) ≤ (ms.length : Int)) = decide (64 ≤ ms.length) from le_nat 64 _]
  by_cases hc : 64 ≤ ms.length
  · rw [decide_eq_true hc, if_pos (.inl hc)]; rfl
  · have := Names_loop ms a1 (fun m h => by have := a2 m h; omega) ms.length 0 [] (by omega) (by simp)
    rw [decide_eq_false hc, bif_false, show (0 : Int) = ((0 : Nat) : Int) from rfl, this, some_bind, List.drop_zero]
    cases hb : ms.any badN with
    | true => simp
    | false =>
      have hlen : (ms.map lower).length ≤ big := by simp only [List.length_map, big]; omega
      simp only [Bool.false_eq_true, if_false, slices_Sort_string, slices_Compact_string, if_pos hlen, some_bind, hc, or_self, List.nil_append]
theorem RNames_eq (l : List GField) (hl : smL l) : ref19_VaryNames l = some (namesF l) := by
  obtain ⟨h1, h2⟩ := smL_F hl
  obtain ⟨a1, a2⟩ := allV_sm hl
  unfold ref19_VaryNames namesF
  rw [RAll_eq l _ h1 h2 (by decide), some_bind]
  unfold varyN at a1 a2 ⊢
  generalize allM l [86, 97, 114, 121] = ms at a1 a2 ⊢
  rw [show decide ((64 : Int) ≤ (ms.length : Int)) = decide (64 ≤ ms.length) from le_nat 64 _]
  by_cases hc : 64 ≤ ms.length
  · rw [decide_eq_true hc, if_pos (.inl hc)]; rfl
  · have := RNames_loop ms a1 (fun m h => by have := a2 m h; omega) ms.length 0 [] (by omega) (by simp)
    rw [decide_eq_false hc, bif_false, show (0 : Int) = ((0 : Nat) : Int) from rfl, this, some_bind, List.drop_zero, names_same]
    cases hb : ms.any badN with
    | true => simp
    | false => simp [hc]
theorem namesF_len {l : List GField} (h : smL l) : (namesF l).1.length ≤ 64 := by
  unfold namesF
  split
  · simp
  · have h1 := compact_len (sortS ((allM l varyN).map lower))
    have h2 := (allV_sm h).1
    rw [sortS_len, List.length_map] at h1
    show (Lib.compact _).length ≤ 64
    omega
end Go.Eng.Pure
namespace Go.Eng.Pure
open Go Go.Eng
set_option linter.unusedVariables false
def fin (a : UInt8) : Nat → Str → Str → List Str × Nat × Str
  | st, cur, [] => ([], st, cur)
  | st, cur, c :: r => if st = 0 ∧ c = a then (cur :: (fin a 0 [] r).1, (fin a 0 [] r).2) else fin a (step st c) (cur ++ [c]) r
end Go.Eng.Pure
namespace Go.Eng.Pure
open Go Go.Eng
set_option linter.unusedVariables false
theorem wr_pred {n : Nat} (h : 0 < n) (hn : n ≤ 1073741824) : wr ((n : Int) - 1) = ((n - 1 : Nat) : Int) := by
  rw [show (n : Int) - 1 = ((n - 1 : Nat) : Int) by omega]
  exact wrn (by omega)
end Go.Eng.Pure
namespace Go.Eng.Pure
open Go Go.Eng
set_option linter.unusedVariables false
theorem xrem_nat (a b : Nat) (hb : b ≠ 0) : xrem (a : Int) (b : Int) = some ((a % b : Nat) : Int) := by
  unfold xrem
  rw [if_neg (by omega), Int.tmod_eq_emod_of_nonneg (by omega)]; rfl
theorem xquo_nat (a b : Nat) (hb : b ≠ 0) (ha : a ≤ 4 * 1073741824) : xquo (a : Int) (b : Int) = some ((a / b : Nat) : Int) := by
  unfold xquo
  have h := Nat.div_le_self a b
  rw [if_neg (by omega), Int.tdiv_eq_ediv_of_nonneg (by omega)]
  have : ((a : Int) / (b : Int)) = ((a / b : Nat) : Int) := rfl
  rw [this, wrn (by omega)]
def lp (y : Nat) : Bool := y % 4 == 0 && (y % 100 != 0 || y % 400 == 0)
theorem leap_core (y : Nat) : ((xrem (y : Int) 4).bind fun n1 => (bif n1 == 0 then (xrem (y : Int) 100).bind fun n4 => (bif n4 != 0 then some true else (xrem (y : Int) 400).bind fun n7 => some (n7 == 0)).bind fun b8 => some (b8) else some false).bind fun b9 => some b9) = some (lp y) := by
  have e1 : xrem (y : Int) 4 = some ((y % 4 : Nat) : Int) := xrem_nat y 4 (by decide)
  have e2 : xrem (y : Int) 100 = some ((y % 100 : Nat) : Int) := xrem_nat y 100 (by decide)
  have e3 : xrem (y : Int) 400 = some ((y % 400 : Nat) : Int) := xrem_nat y 400 (by decide)
  have f1 : (((y % 4 : Nat) : Int) == 0) = (y % 4 == 0) := eqI _ 0
  have f2 : (((y % 100 : Nat) : Int) != 0) = (y % 100 != 0) := neI _ 0
  have f3 : (((y % 400 : Nat) : Int) == 0) = (y % 400 == 0) := eqI _ 0
  rw [e1, some_bind, e2, some_bind, e3, some_bind, f1, f2, f3]
  unfold lp
  cases y % 4 == 0 <;> cases y % 100 != 0 <;> cases y % 400 == 0 <;> rfl
theorem leap_eq (y : Nat) : date_leap (y : Int) = some (lp y) := leap_core y
def mlen (y m : Nat) : Nat := if m = 2 then (if lp y then 29 else 28) else if m = 4 ∨ m = 6 ∨ m = 9 ∨ m = 11 then 30 else 31
theorem mlen_bd (y m : Nat) : 28 ≤ mlen y m ∧ mlen y m ≤ 31 := by unfold mlen; split <;> split <;> omega
theorem length_eq (y m : Nat) (h1 : 1 ≤ m) (h2 : m ≤ 12) : date_length (y : Int) (m : Int) = some (mlen y m : Int) := by
  have e0 : wr ((m : Int) - 1) = ((m - 1 : Nat) : Int) := by rw [wr_nat (by omega) (by omega)]; omega
  have e1 : ((m : Int) == 2) = (m == 2) := eqI m 2
  unfold date_length mlen
  rw [e0, e1, leap_eq]
  have hm : m = 1 ∨ m = 2 ∨ m = 3 ∨ m = 4 ∨ m = 5 ∨ m = 6 ∨ m = 7 ∨ m = 8 ∨ m = 9 ∨ m = 10 ∨ m = 11 ∨ m = 12 := by omega
  rcases hm with rfl | rfl | rfl | rfl | rfl | rfl | rfl | rfl | rfl | rfl | rfl | rfl <;> first | rfl | (cases lp y <;> rfl)
def bef (y : Nat) : Nat := 365 * (y - 1) + (y - 1) / 4 - (y - 1) / 100 + (y - 1) / 400
theorem before_eq (y : Nat) (h1 : 1 ≤ y) (h2 : y ≤ 10000) : date_before (y : Int) = some (bef y : Int) := by
  have e0 : wr ((y : Int) - 1) = ((y - 1 : Nat) : Int) := by rw [wr_nat (by omega) (by omega)]; omega
  have e1 : xquo ((y - 1 : Nat) : Int) 4 = some (((y - 1) / 4 : Nat) : Int) := xquo_nat (y - 1) 4 (by decide) (by omega)
  have e2 : xquo ((y - 1 : Nat) : Int) 100 = some (((y - 1) / 100 : Nat) : Int) := xquo_nat (y - 1) 100 (by decide) (by omega)
  have e3 : xquo ((y - 1 : Nat) : Int) 400 = some (((y - 1) / 400 : Nat) : Int) := xquo_nat (y - 1) 400 (by decide) (by omega)
  unfold date_before bef
  rw [e0, e1, some_bind, e2, some_bind, e3, some_bind]
  rw [wr_nat (n := 365 * ((y - 1 : Nat) : Int)) (by omega) (by omega), wr_nat (n := 365 * ((y - 1 : Nat) : Int) + _) (by omega) (by omega), wr_nat (n := 365 * ((y - 1 : Nat) : Int) + _ - _) (by omega) (by omega), wr_nat (by omega) (by omega)]
  congr 1
  omega
theorem bef_succ (y : Nat) (h1 : 1 ≤ y) : bef (y + 1) = bef y + 365 + (if lp y then 1 else 0) := by
  unfold bef lp
  have a1 : y - 1 + 1 = y := by omega
  obtain ⟨x, rfl⟩ : ∃ x, y = x + 1 := ⟨y - 1, by omega⟩
  simp only [Nat.add_sub_cancel]
  by_cases h4 : (x + 1) % 4 = 0
  · by_cases h100 : (x + 1) % 100 = 0
    · by_cases h400 : (x + 1) % 400 = 0
      · simp [h4, h100, h400]; omega
      · simp [h4, h100, h400]; omega
    · simp [h4, h100]; omega
  · simp [h4]; omega
def msum (y : Nat) : Nat → Nat
  | 0 => 0
  | 1 => 0
  | m + 2 => msum y (m + 1) + mlen y (m + 1)
theorem msum_bd (y : Nat) : ∀ m, msum y m ≤ 31 * m
  | 0 => by simp [msum]
  | 1 => by simp [msum]
  | m + 2 => by have := msum_bd y (m + 1); have := mlen_bd y (m + 1); unfold msum; omega
def daysS (y m d : Int) : Int :=
  if y < 1970 ∨ 9999 < y ∨ m < 1 ∨ 12 < m ∨ d < 1 ∨ (mlen y.toNat m.toNat : Int) < d then -1 else (bef y.toNat : Int) - (bef 1970 : Int) + d - 1 + (msum y.toNat m.toNat : Int)
theorem msum_loop (y m : Nat) (h1 : 1 ≤ m) (h2 : m ≤ 12) (n0 : Int) (hn : 0 ≤ n0 ∧ n0 ≤ 100000000) (body : (Int × Int) → Option ((Int × Int) ⊕ Int)) (len : Int → Option Int) (hlen : ∀ k : Nat, 1 ≤ k → k ≤ 12 → len (k : Int) = some (mlen y k : Int))
    (hb : ∀ n i, body (n, i) = (bif decide (i < (m : Int)) then (len i).bind fun r47 => some (.inl (wr (n + r47), wr (i + 1))) else some (.inr n))) :
    whileO body (n0, 1) = some (n0 + (msum y m : Int)) := by
  have := while_count (fun k => (n0 + (msum y (k + 1) : Int), ((k + 1 : Nat) : Int))) (m - 1) (n0 + (msum y m : Int)) body ?_ ?_
  · have e : (n0, (1 : Int)) = (n0 + (msum y (0 + 1) : Int), ((0 + 1 : Nat) : Int)) := by simp [msum]
    rw [e]; exact this
  · intro k hk
    have hlt : k + 1 < m := by omega
    have h3 := msum_bd y (k + 1)
    have h4 := mlen_bd y (k + 1)
    rw [hb, lt_true hlt, bif_true, hlen _ (by omega) (by omega), some_bind, wrs (by omega), wr_nat (by omega) (by omega)]
    congr 3
    show _ = n0 + ((msum y (k + 1) + mlen y (k + 1) : Nat) : Int)
    omega
  · have e : m - 1 + 1 = m := by omega
    show body (n0 + (msum y (m - 1 + 1) : Int), ((m - 1 + 1 : Nat) : Int)) = _
    rw [e, hb, lt_false (Nat.le_refl m), bif_false]
theorem bef_bd (y : Nat) (h : y ≤ 10000) : bef y ≤ 4000000 := by unfold bef; omega
theorem bef_mono (y k : Nat) (h : 1 ≤ y) : bef y ≤ bef (y + k) := by
  induction k with
  | zero => exact Nat.le_refl _
  | succ k ih => have := bef_succ (y + k) (by omega); have e : y + (k + 1) = (y + k) + 1 := by omega
                 rw [e, this]; omega
theorem guard_eq (y m d : Int) (len : Int → Int → Option Int) (hlen : ∀ (y m : Nat), 1 ≤ m → m ≤ 12 → len (y : Int) (m : Int) = some (mlen y m : Int)) :
    (bif (((((decide (y < 1970)) || (decide (9999 < y))) || (decide (m < 1))) || (decide (12 < m))) || (decide (d < 1))) then some true else (len y m).bind fun r11 => some (decide (r11 < d))) = some (decide (y < 1970 ∨ 9999 < y ∨ m < 1 ∨ 12 < m ∨ d < 1 ∨ (mlen y.toNat m.toNat : Int) < d)) := by
  by_cases h : y < 1970 ∨ 9999 < y ∨ m < 1 ∨ 12 < m ∨ d < 1
  · have e : (((((decide (y < 1970)) || (decide (9999 < y))) || (decide (m < 1))) || (decide (12 < m))) || (decide (d < 1))) = true := by
      simp only [Bool.or_eq_true, decide_eq_true_eq]; omega
    rw [e, bif_true]
    exact congrArg some (decide_eq_true (by omega)).symm
  · have e : (((((decide (y < 1970)) || (decide (9999 < y))) || (decide (m < 1))) || (decide (12 < m))) || (decide (d < 1))) = false := by
      rw [Bool.eq_false_iff]; simp only [ne_eq, Bool.or_eq_true, decide_eq_true_eq]; omega
    obtain ⟨a, rfl⟩ : ∃ a : Nat, y = (a : Int) := ⟨y.toNat, by omega⟩
    obtain ⟨b, rfl⟩ : ∃ b : Nat, m = (b : Int) := ⟨m.toNat, by omega⟩
    rw [e, bif_false, hlen a b (by omega) (by omega), some_bind]
    refine congrArg some ?_
    simp only [Int.toNat_natCast]
    by_cases hd : (mlen a b : Int) < d
    · rw [decide_eq_true hd, decide_eq_true (by omega)]
    · rw [decide_eq_false hd, decide_eq_false (by omega)]
theorem Days_eq (y m d : Int) : date_Days y m d = some (daysS y m d) := by
  unfold date_Days daysS
  rw [guard_eq y m d date_length (fun y m h1 h2 => length_eq y m h1 h2), some_bind]
  by_cases h : y < 1970 ∨ 9999 < y ∨ m < 1 ∨ 12 < m ∨ d < 1 ∨ (mlen y.toNat m.toNat : Int) < d
  · rw [decide_eq_true h, if_pos h]; rfl
  · rw [decide_eq_false h, if_neg h, bif_false]
    obtain ⟨a, rfl⟩ : ∃ a : Nat, y = (a : Int) := ⟨y.toNat, by omega⟩
    obtain ⟨b, rfl⟩ : ∃ b : Nat, m = (b : Int) := ⟨m.toNat, by omega⟩
    simp only [Int.toNat_natCast] at h ⊢
    have h1 := mlen_bd a b
    have h2 := bef_bd a (by omega)
    have h3 : bef 1970 ≤ bef a := by
      have := bef_mono 1970 (a - 1970) (by decide)
      rwa [show 1970 + (a - 1970) = a by omega] at this
    have e1970 : date_before 1970 = some (bef 1970 : Int) := before_eq 1970 (by decide) (by decide)
    rw [before_eq a (by omega) (by omega), some_bind, e1970, some_bind]
    rw [wr_nat (n := (bef a : Int) - (bef 1970 : Int)) (by omega) (by omega), wr_nat (n := (bef a : Int) - (bef 1970 : Int) + d) (by omega) (by omega), wr_nat (n := (bef a : Int) - (bef 1970 : Int) + d - 1) (by omega) (by omega)]
    rw [msum_loop a b (by omega) (by omega) _ ⟨by omega, by omega⟩ (date_Days_L0 (a : Int) (b : Int)) (date_length (a : Int)) (fun k h1 h2 => length_eq a k h1 h2) (fun n i => rfl), some_bind]
theorem daysS_bd (y m d : Int) : -1 ≤ daysS y m d ∧ daysS y m d ≤ 5000000 := by
  unfold daysS
  split
  · omega
  · rename_i h
    have h1 := mlen_bd y.toNat m.toNat
    have h2 := bef_bd y.toNat (by omega)
    have h4 := msum_bd y.toNat m.toNat
    have h3 : bef 1970 ≤ bef y.toNat := by
      have := bef_mono 1970 (y.toNat - 1970) (by decide)
      rwa [show 1970 + (y.toNat - 1970) = y.toNat by omega] at this
    omega
def monN : List Str := [[74, 97, 110], [70, 101, 98], [77, 97, 114], [65, 112, 114], [77, 97, 121], [74, 117, 110], [74, 117, 108], [65, 117, 103], [83, 101, 112], [79, 99, 116], [78, 111, 118], [68, 101, 99]]
def dayN : List Str := [[77, 111, 110], [84, 117, 101], [87, 101, 100], [84, 104, 117], [70, 114, 105], [83, 97, 116], [83, 117, 110]]
def nameIx (l : List Str) (s : Str) : Int := if s ∈ l then (l.idxOf s : Int) else -1
theorem index_eq (l : List Str) (hl : l.length ≤ 1073741824) (name : Int → Option Str) (s : Str) (h : ∀ (n : Nat) (hn : n < l.length), name (n : Int) = some l[n]) : date_index (l.length : Int) name s = some (nameIx l s) := by
  have key : ∀ (k n : Nat), n + k = l.length → whileO (date_index_L0 (l.length : Int) name s) (n : Int) = some (if s ∈ l.drop n then .inr ((n + (l.drop n).idxOf s : Nat) : Int) else .inl ()) := by
    intro k
    induction k with
    | zero =>
      intro n hn
      obtain rfl : n = l.length := by omega
      rw [List.drop_length]
      refine (whileO_done (r := .inl ()) ?_).trans (by simp)
      simp only [date_index_L0, lt_false (Nat.le_refl l.length), bif_false]
    | succ k ih =>
      intro n hn
      have hlt : n < l.length := by omega
      rw [List.drop_eq_getElem_cons hlt]
      by_cases hc : l[n] = s
      · rw [whileO_done (r := .inr (n : Int))]
        · simp [hc]
        · simp only [date_index_L0, lt_true hlt, bif_true, h n hlt, some_bind, hc, beq_self_eq_true]
      · have hc' : (l[n] == s) = false := by simpa using hc
        have hb : date_index_L0 (l.length : Int) name s (n : Int) = some (.inl ((n + 1 : Nat) : Int)) := by
          simp only [date_index_L0, lt_true hlt, bif_true, h n hlt, some_bind, hc', bif_false, wrs (show n ≤ 4 * 1073741824 by omega)]
        rw [whileO_next hb, ih (n + 1) (by omega)]
        have e1 : (s ∈ l[n] :: l.drop (n + 1)) ↔ s ∈ l.drop (n + 1) := by
          rw [List.mem_cons]; exact ⟨fun h => h.resolve_left (fun h => hc h.symm), .inr⟩
        by_cases hm : s ∈ l.drop (n + 1)
        · rw [if_pos hm, if_pos (e1.2 hm), List.idxOf_cons, hc', bif_false]
          congr 3; omega
        · rw [if_neg hm, if_neg (fun h => hm (e1.1 h))]
  unfold date_index nameIx
  have h0 := key l.length 0 (by omega)
  have h0 : whileO (date_index_L0 (l.length : Int) name s) 0 = _ := h0
  rw [h0, some_bind, List.drop_zero]
  by_cases hm : s ∈ l
  · rw [if_pos hm, if_pos hm]; simp
  · rw [if_neg hm, if_neg hm]
theorem month_eq (s : Str) : date_index 12 date_monthName s = some (nameIx monN s) := by
  refine index_eq monN (by decide) date_monthName s fun n hn => ?_
  unfold date_monthName
  have : xnth monN (n : Int) = some monN[n] := xnth_get hn
  exact (congrArg (fun o => Option.bind o fun s1 => some s1) this).trans rfl
theorem day_eq (s : Str) : date_index 7 date_dayName s = some (nameIx dayN s) := by
  refine index_eq dayN (by decide) date_dayName s fun n hn => ?_
  unfold date_dayName
  have : xnth dayN (n : Int) = some dayN[n] := xnth_get hn
  exact (congrArg (fun o => Option.bind o fun s1 => some s1) this).trans rfl
def dateF (d y h mi s : Int × Bool) (mon day : Str) : Int × Bool :=
  if d.2 ∧ y.2 ∧ h.2 ∧ mi.2 ∧ s.2 ∧ 0 ≤ daysS y.1 (nameIx monN mon + 1) d.1 ∧ h.1 ≤ 23 ∧ mi.1 ≤ 59 ∧ s.1 ≤ 59 ∧ nameIx dayN day = (daysS y.1 (nameIx monN mon + 1) d.1 + 3) % 7 then
    (daysS y.1 (nameIx monN mon + 1) d.1 * 86400 + (h.1 * 3600 + mi.1 * 60 + s.1), true) else (0, false)
def shape (s : Str) : Bool := s.length == 29 && ((s.take 5).drop 3 == [44, 32] && (s.getD 7 0 == 32 && (s.getD 11 0 == 32 && (s.getD 16 0 == 32 && (s.getD 19 0 == 58 && (s.getD 22 0 == 58 && s.drop 25 == [32, 71, 77, 84]))))))
def dateS (s : Str) : Int × Bool :=
  if shape s then dateF (num ((s.take 7).drop 5)) (num ((s.take 16).drop 12)) (num ((s.take 19).drop 17)) (num ((s.take 22).drop 20)) (num ((s.take 25).drop 23)) ((s.take 11).drop 8) (s.take 3) else (0, false)
theorem shape_eq {β : Type} (s : Str) (k : Bool → Option β) :
    ((bif (s.length : Int) != 29 then some true else (xsub s 3 5).bind fun s3 => some (s3 != [44, 32])).bind fun b4 =>
    (bif b4 then some true else (xnth s 7).bind fun c7 => some (c7 != 32)).bind fun b8 =>
    (bif b8 then some true else (xnth s 11).bind fun c11 => some (c11 != 32)).bind fun b12 =>
    (bif b12 then some true else (xnth s 16).bind fun c15 => some (c15 != 32)).bind fun b16 =>
    (bif b16 then some true else (xnth s 19).bind fun c19 => some (c19 != 58)).bind fun b20 =>
    (bif b20 then some true else (xnth s 22).bind fun c23 => some (c23 != 58)).bind fun b24 =>
    (bif b24 then some true else (xsub s 25 s.length).bind fun s27 => some (s27 != [32, 71, 77, 84])).bind k) = k (!shape s) := by
  have e0 : ((s.length : Int) != 29) = (s.length != 29) := neI _ 29
  rw [e0]
  unfold shape
  by_cases hl : s.length = 29
  · have e1 : (s.length != 29) = false := by simp [hl]
    have e2 : (s.length == 29) = true := by simp [hl]
    have g : ∀ i : Nat, i < 29 → xnth s (i : Int) = some (s.getD i 0) := by
      intro i hi
      rw [xnth_get (by omega), List.getD_eq_getElem?_getD, List.getElem?_eq_getElem (by omega)]; rfl
    have g7 : xnth s 7 = _ := g 7 (by omega)
    have g11 : xnth s 11 = _ := g 11 (by omega)
    have g16 : xnth s 16 = _ := g 16 (by omega)
    have g19 : xnth s 19 = _ := g 19 (by omega)
    have g22 : xnth s 22 = _ := g 22 (by omega)
    have gs : xsub s 3 5 = some ((s.take 5).drop 3) := xsub_nat (i := 3) (j := 5) ⟨by omega, by omega⟩
    have ge : xsub s 25 s.length = some (s.drop 25) := xsub_from (i := 25) (by omega)
    rw [e1, e2, bif_false, gs, g7, g11, g16, g19, g22, ge]
    simp only [some_bind, Bool.true_and]
    generalize (s.take 5).drop 3 = a1; generalize s.getD 7 0 = a2; generalize s.getD 11 0 = a3; generalize s.getD 16 0 = a4; generalize s.getD 19 0 = a5; generalize s.getD 22 0 = a6; generalize s.drop 25 = a7
    simp only [bne]
    cases a1 == [44, 32] <;> cases a2 == 32 <;> cases a3 == 32 <;> cases a4 == 32 <;> cases a5 == 58 <;> cases a6 == 58 <;> cases a7 == [32, 71, 77, 84] <;> rfl
  · have e1 : (s.length != 29) = true := by simp [hl]
    have e2 : (s.length == 29) = false := by simp [hl]
    rw [e1, e2]; rfl
theorem nameIx_bd (l : List Str) (s : Str) : -1 ≤ nameIx l s ∧ nameIx l s < l.length := by
  unfold nameIx
  split
  · rename_i h; have := List.idxOf_lt_length_of_mem h; omega
  · omega
theorem DParse_eq (s : Str) : date_Parse s = some (dateS s) := by
  unfold date_Parse dateS
  rw [shape_eq]
  cases hsh : shape s with
  | false => rfl
  | true =>
    have hl : s.length = 29 := by unfold shape at hsh; simp only [Bool.and_eq_true, beq_iff_eq] at hsh; exact hsh.1
    have x1 : xsub s 5 7 = some ((s.take 7).drop 5) := xsub_nat (i := 5) (j := 7) ⟨by omega, by omega⟩
    have x2 : xsub s 12 16 = some ((s.take 16).drop 12) := xsub_nat (i := 12) (j := 16) ⟨by omega, by omega⟩
    have x3 : xsub s 17 19 = some ((s.take 19).drop 17) := xsub_nat (i := 17) (j := 19) ⟨by omega, by omega⟩
    have x4 : xsub s 20 22 = some ((s.take 22).drop 20) := xsub_nat (i := 20) (j := 22) ⟨by omega, by omega⟩
    have x5 : xsub s 23 25 = some ((s.take 25).drop 23) := xsub_nat (i := 23) (j := 25) ⟨by omega, by omega⟩
    have x6 : xsub s 8 11 = some ((s.take 11).drop 8) := xsub_nat (i := 8) (j := 11) ⟨by omega, by omega⟩
    have x7 : xsub s 0 3 = some (s.take 3) := xsub_to (j := 3) (by omega)
    have hn : ∀ a b : Nat, ((s.take b).drop a).length ≤ 1073741824 := by intro a b; rw [List.length_drop, List.length_take]; omega
    rw [Bool.not_true, bif_false, x1, x2, x3, x4, x5, x6, x7, if_pos rfl]
    simp only [some_bind, Number_eq _ (hn _ _), month_eq, day_eq, Days_eq]
    have b1 := num_bd ((s.take 19).drop 17)
    have b2 := num_bd ((s.take 22).drop 20)
    have b3 := num_bd ((s.take 25).drop 23)
    generalize num ((s.take 7).drop 5) = d
    generalize num ((s.take 16).drop 12) = y
    generalize num ((s.take 19).drop 17) = h at b1 ⊢
    generalize num ((s.take 22).drop 20) = mi at b2 ⊢
    generalize num ((s.take 25).drop 23) = se at b3 ⊢
    generalize (s.take 11).drop 8 = mon
    generalize s.take 3 = day
    have hm : -1 ≤ nameIx monN mon ∧ nameIx monN mon < 12 := nameIx_bd monN mon
    have hmw : wr (nameIx monN mon + 1) = nameIx monN mon + 1 := wr_nat (by omega) (by omega)
    rw [hmw]
    have hb := daysS_bd y.1 (nameIx monN mon + 1) d.1
    unfold dateF
    generalize daysS y.1 (nameIx monN mon + 1) d.1 = n at hb ⊢
    cases hd : d.2 with
    | false => simp
    | true =>
    cases hy : y.2 with
    | false => simp
    | true =>
    cases hh : h.2 with
    | false => simp
    | true =>
    cases hmi : mi.2 with
    | false => simp
    | true =>
    cases hse : se.2 with
    | false => simp
    | true =>
    simp only [Bool.not_true, bif_false, true_and]
    by_cases hc : 0 ≤ n ∧ h.1 ≤ 23 ∧ mi.1 ≤ 59 ∧ se.1 ≤ 59
    · have e1 : ((((decide (n < 0)) || (decide (23 < h.1))) || (decide (59 < mi.1))) || (decide (59 < se.1))) = false := by
        rw [Bool.eq_false_iff]; simp only [ne_eq, Bool.or_eq_true, decide_eq_true_eq]; omega
      have e2 : wr (n + 3) = n + 3 := wr_nat (by omega) (by omega)
      have e3 : xrem (n + 3) 7 = some ((n + 3) % 7) := by
        unfold xrem; rw [if_neg (by decide), Int.tmod_eq_emod_of_nonneg (by omega)]
      rw [e1, bif_false, e2, e3, some_bind, some_bind]
      by_cases hd2 : nameIx dayN day = (n + 3) % 7
      · have e4 : (nameIx dayN day != (n + 3) % 7) = false := by simp [hd2]
        rw [e4, bif_false, if_pos ⟨hc.1, hc.2.1, hc.2.2.1, hc.2.2.2, hd2⟩]
        rw [wr_nat (n := n * 86400) (by omega) (by omega), wr_nat (n := h.1 * 3600) (by omega) (by omega), wr_nat (n := mi.1 * 60) (by omega) (by omega), wr_nat (n := h.1 * 3600 + mi.1 * 60) (by omega) (by omega), wr_nat (n := h.1 * 3600 + mi.1 * 60 + se.1) (by omega) (by omega), wr_nat (by omega) (by omega)]
      · have e4 : (nameIx dayN day != (n + 3) % 7) = true := by simp [hd2]
        rw [e4, bif_true, if_neg (fun h => hd2 h.2.2.2.2)]
    · have e1 : ((((decide (n < 0)) || (decide (23 < h.1))) || (decide (59 < mi.1))) || (decide (59 < se.1))) = true := by
        simp only [Bool.or_eq_true, decide_eq_true_eq]; omega
      rw [e1, bif_true, some_bind, bif_true, if_neg (fun h => hc ⟨h.1, h.2.1, h.2.2.1, h.2.2.2.1⟩)]
theorem dateS_bd (s : Str) : 0 ≤ (dateS s).1 ∧ (dateS s).1 ≤ 500000000000 := by
  unfold dateS
  split
  · unfold dateF
    have b1 := num_bd ((s.take 19).drop 17)
    have b2 := num_bd ((s.take 22).drop 20)
    have b3 := num_bd ((s.take 25).drop 23)
    split
    · rename_i h
      have hb := daysS_bd (num ((s.take 16).drop 12)).1 (nameIx monN ((s.take 11).drop 8) + 1) (num ((s.take 7).drop 5)).1
      obtain ⟨_, _, _, _, _, h1, h2, h3, h4, _⟩ := h
      exact ⟨by show 0 ≤ _ * 86400 + _; omega, by show _ * 86400 + _ ≤ _; omega⟩
    · exact ⟨Int.le_refl 0, by show (0 : Int) ≤ 500000000000; omega⟩
  · exact ⟨Int.le_refl 0, by show (0 : Int) ≤ 500000000000; omega⟩
end Go.Eng.Pure
namespace Go.Eng.Pure
open Go Go.Eng
set_option linter.unusedVariables false
def sat (n : Int) : Int := cap (if n < 0 then 0 else n)
theorem sat_eq (a b : Int) (h : -1000000000000000000 ≤ a - b ∧ a - b ≤ 1000000000000000000) : freshness_saturate a b = some (sat (a - b)) := by
  unfold freshness_saturate
  rw [wr_nat h.1 h.2]; rfl
def firstD (l : List GField) (name : Str) : Int × Bool := dateS (firstF l name).1
theorem firstD_bd (l : List GField) (name : Str) : 0 ≤ (firstD l name).1 ∧ (firstD l name).1 ≤ 500000000000 := dateS_bd _
section
variable (l : List GField) (hl : l.length ≤ 1073741824) (hf : ∀ f ∈ l, smF f)
include hl hf
theorem first_eq (name : Str) (hn : name.length ≤ 1073741824) : freshness_first l name = some (firstD l name) := by
  unfold freshness_first
  rw [First_eq l name hl hf hn, some_bind, DParse_eq, some_bind]; rfl
end
def dateN : Str := [68, 97, 116, 101]
def ageN : Str := [65, 103, 101]
def dateOfS (l : List GField) (received : Int) : Int := if (firstD l dateN).2 then (firstD l dateN).1 else received
theorem Date_eq (l : List GField) (hl : l.length ≤ 1073741824) (hf : ∀ f ∈ l, smF f) (r : Int) : freshness_Date l r = some (dateOfS l r) := by
  unfold freshness_Date
  rw [first_eq l hl hf _ (by decide), some_bind]
  unfold dateOfS dateN
  cases (firstD l [68, 97, 116, 101]).2 <;> rfl
def ageN0 (l : List GField) (requested received now : Int) : Int :=
  max (max 0 (received - dateOfS l received)) ((num (firstF l ageN).1).1 + received - requested) + now - received
def ageS (l : List GField) (requested received now : Int) : Int :=
  if requested < 0 ∨ received < requested ∨ now < received ∨ 1099511627776 < now then 2147483647 else cap (ageN0 l requested received now)
theorem max_eq (a b : Int) : (if a < b then b else a) = max a b := by
  rw [Int.max_def]; split <;> split <;> omega
theorem guard4 (a b c d : Prop) [Decidable a] [Decidable b] [Decidable c] [Decidable d] : (((decide a || decide b) || decide c) || decide d) = decide (a ∨ b ∨ c ∨ d) := by
  by_cases a <;> by_cases b <;> by_cases c <;> by_cases d <;> simp [*]
theorem ageN0_bd (l : List GField) (q r n : Int) (h : ¬ (q < 0 ∨ r < q ∨ n < r ∨ 1099511627776 < n)) : n - r ≤ ageN0 l q r n ∧ ageN0 l q r n ≤ 10000000000000 := by
  have a2 := firstD_bd l dateN
  have b := num_bd (firstF l ageN).1
  unfold ageN0 dateOfS
  split <;> omega
theorem age_core (l : List GField) (q r n : Int) (h : ¬ (q < 0 ∨ r < q ∨ n < r ∨ 1099511627776 < n)) :
    (wr ((wr ((if (if 0 < (wr (r - dateOfS l r)) then (wr (r - dateOfS l r)) else 0) < (wr ((wr ((num (firstF l ageN).1).1 + r)) - q)) then (wr ((wr ((num (firstF l ageN).1).1 + r)) - q)) else (if 0 < (wr (r - dateOfS l r)) then (wr (r - dateOfS l r)) else 0)) + n)) - r)) = ageN0 l q r n := by
  have a2 := firstD_bd l dateN
  have b := num_bd (firstF l ageN).1
  have hd : -500000000000 ≤ r - dateOfS l r ∧ r - dateOfS l r ≤ 1099511627776 := by unfold dateOfS; split <;> omega
  have e1 : wr (r - dateOfS l r) = r - dateOfS l r := wr_nat (by omega) (by omega)
  have e2 : wr ((num (firstF l ageN).1).1 + r) = (num (firstF l ageN).1).1 + r := wr_nat (by omega) (by omega)
  have e3 : wr ((num (firstF l ageN).1).1 + r - q) = (num (firstF l ageN).1).1 + r - q := wr_nat (by omega) (by omega)
  rw [e1, e2, e3, max_eq, max_eq]
  unfold ageN0
  rw [wr_nat (n := max (max 0 (r - dateOfS l r)) ((num (firstF l ageN).1).1 + r - q) + n) (by omega) (by omega), wr_nat (by omega) (by omega)]
theorem Age_eq (l : List GField) (hl : l.length ≤ 1073741824) (hf : ∀ f ∈ l, smF f) (q r n : Int) : freshness_Age l q r n = some (ageS l q r n) := by
  unfold freshness_Age ageS
  rw [guard4]
  by_cases h : q < 0 ∨ r < q ∨ n < r ∨ 1099511627776 < n
  · rw [decide_eq_true h, if_pos h]; rfl
  · have hs := firstF_sm l ageN 1073741824 (fun f h => (hf f h).2)
    unfold ageN at hs
    rw [decide_eq_false h, if_neg h, bif_false, First_eq l _ hl hf (by decide), some_bind, Number_eq _ hs, some_bind, Date_eq l hl hf r, some_bind]
    have hc := age_core l q r n h
    have hb := ageN0_bd l q r n h
    unfold ageN at hc
    rw [hc, sat_eq _ _ ⟨by omega, by omega⟩, some_bind]
    unfold sat
    rw [Int.sub_zero, if_neg (by omega)]
end Go.Eng.Pure
namespace Go.Eng.Pure.Etag
open Go Go.Eng Go.Eng.Pure
def badTag (c : UInt8) : Bool := (decide (c < 33) || c == 34) || c == 127
def tagOK (s : Str) : Bool := !s.any badTag
def inner (t : Str) : Option Str :=
  match t with
  | a :: r => if a = 34 ∧ r ≠ [] ∧ r.getLast? = some 34 ∧ tagOK r.dropLast then some r.dropLast else none
  | [] => none
def tagOf (weak : Bool) (t : Str) : GETag × Bool := match inner t with | some x => (⟨weak, x⟩, true) | none => (⟨false, []⟩, false)
def pre : Str := [87, 47]
def parseSpec (s : Str) : GETag × Bool := if pre.isPrefixOf s then tagOf true (s.drop 2) else tagOf false s
end Go.Eng.Pure.Etag
namespace Go.Eng.Pure.Etag
open Go Go.Eng Go.Eng.Pure
set_option linter.unusedVariables false
theorem First_eq (l : List GField) (name : Str) (hl : l.length ≤ 1073741824) (hf : ∀ f ∈ l, smF f) (hn : name.length ≤ 1073741824) : fieldline_First l name = some (match getF l name with | v :: _ => (v, true) | [] => ([], false)) := by
  unfold fieldline_First
  rw [Get_eq l name hl hf hn, some_bind]
  cases getF l name with
  | nil => rfl
  | cons v r =>
    have : ((((v :: r).length : Nat) : Int) == 0) = false := by
      rw [Bool.eq_false_iff]; simp only [ne_eq, beq_iff_eq, List.length_cons]; omega
    rw [this]; rfl
def tagStep (out : List GETag) (m : Str) : List GETag ⊕ (List GETag ⊕ (List GETag × Bool × Bool)) := if (parseSpec m).2 then .inl (out ++ [(parseSpec m).1]) else .inr (.inr ([], false, false))
def tagsOf (l : List Str) : List GETag ⊕ (List GETag × Bool × Bool) := run tagStep .inl l []
theorem tags_loop (m : List Str) (hm : m.length ≤ 64) (hs : ∀ x ∈ m, x.length ≤ 1073741824) (parse : Str → Option (GETag × Bool)) (hp : ∀ x : Str, x.length ≤ 1073741824 → parse x = some (parseSpec x)) (body : (List GETag × Int) → Option ((List GETag × Int) ⊕ (List GETag ⊕ (List GETag × Bool × Bool))))
    (hb : ∀ o i, body (o, i) = (bif decide (i < (m.length : Int)) then (xnth m i).bind fun x => (parse x).bind fun r => (bif !r.2 then some (.inr (.inr (([] : List GETag), false, false))) else (xapp o ([r.1] : List GETag)).bind fun l => some (.inl (l, wr (i + 1)))) else some (.inr (.inl o)))) :
    whileO body ([], 0) = some (tagsOf m) := by
  refine while_run0 (fun (o : List GETag) (i : Int) => (o, i)) m tagStep .inl body (fun n o => o.length ≤ n) [] (Nat.le_refl _) (fun n hn o ho => ?_) (fun o _ => ?_)
  · have h1 := hs _ (List.getElem_mem hn)
    rw [hb, lt_true hn, bif_true, xnth_get hn, some_bind, hp _ h1, some_bind, xapp_sm (by omega) (one_sm _), some_bind, wrs (by omega)]
    unfold tagStep
    cases hpp : (parseSpec m[n]).2 with
    | true => exact ⟨rfl, fun st' h => by simp at h; subst h; rw [List.length_append, List.length_singleton]; omega⟩
    | false => exact ⟨rfl, fun st' h => by simp at h⟩
  · rw [hb, lt_false (Nat.le_refl m.length), bif_false]
theorem allM_sm (l : List GField) (name : Str) (hf : ∀ f ∈ l, smF f) : ∀ x ∈ allM l name, x.length ≤ 1073741824 := by
  intro x hx
  have h1 := List.mem_of_mem_take hx
  rw [List.mem_flatMap] at h1
  obtain ⟨v, hv, hx⟩ := h1
  exact Nat.le_trans (split_sm v x hx) (getF_sm l name 1073741824 (fun f h => (hf f h).2) v hv)
theorem Index_eq (s : Str) (c : UInt8) (hs : s.length ≤ 1073741824) : ∀ (k n : Nat), n + k = s.length → ref01_Index s c (n : Int) = some (if c ∈ s.drop n then ((n + (s.drop n).idxOf c : Nat) : Int) else -1) := by
  have key : ∀ (k n : Nat), n + k = s.length → whileO (ref01_Index_L0 s c) (n : Int) = some (if c ∈ s.drop n then .inr ((n + (s.drop n).idxOf c : Nat) : Int) else .inl ()) := by
    intro k
    induction k with
    | zero =>
      intro n hn
      obtain rfl : n = s.length := by omega
      rw [List.drop_length]
      refine (whileO_done (r := .inl ()) ?_).trans (by simp)
      simp only [ref01_Index_L0, lt_false (Nat.le_refl s.length), bif_false]
    | succ k ih =>
      intro n hn
      have hlt : n < s.length := by omega
      rw [List.drop_eq_getElem_cons hlt]
      by_cases hc : s[n] = c
      · rw [whileO_done (r := .inr (n : Int))]
        · simp [hc]
        · simp only [ref01_Index_L0, lt_true hlt, bif_true, xnth_get hlt, some_bind, hc, beq_self_eq_true]
      · have hb : ref01_Index_L0 s c (n : Int) = some (.inl ((n + 1 : Nat) : Int)) := by
          have : (s[n] == c) = false := by simpa using hc
          simp only [ref01_Index_L0, lt_true hlt, xnth_get hlt, bif_true, some_bind, this, bif_false, wrs (show n ≤ 4 * 1073741824 by omega)]
        rw [whileO_next hb, ih (n + 1) (by omega)]
        have e1 : (c ∈ s[n] :: s.drop (n + 1)) ↔ c ∈ s.drop (n + 1) := by
          rw [List.mem_cons]; exact ⟨fun h => h.resolve_left (fun h => hc h.symm), .inr⟩
        by_cases hm : c ∈ s.drop (n + 1)
        · have e2 : (s[n] == c) = false := by simpa using hc
          rw [if_pos hm, if_pos (e1.2 hm), List.idxOf_cons, e2, bif_false]
          congr 3; omega
        · rw [if_neg hm, if_neg (fun h => hm (e1.1 h))]
  intro k n hn
  unfold ref01_Index
  rw [key k n hn, some_bind]
  by_cases hm : c ∈ s.drop n
  · rw [if_pos hm, if_pos hm]
  · rw [if_neg hm, if_neg hm]
end Go.Eng.Pure.Etag
namespace Go.Eng.Pure
end Go.Eng.Pure
namespace Go.Eng.Pure
open Go Go.Eng
set_option linter.unusedVariables false
def keepQ (q : GRequest) : Bool := ((decide (q.fMethod.length ≤ 100) && decide (q.fTarget.length ≤ 2100)) && keepF q.fFields) && decide (q.fBody.length ≤ 2000)
def keepR (r : GResponse) : Bool := (decide (r.fReason.length ≤ 2100) && keepF r.fFields) && decide (r.fBody.length ≤ 2000)
theorem keep_Request_eq (q : GRequest) : keep_Request q = some (keepQ q) := by
  unfold keep_Request keepQ
  rw [keep_Fields_eq, some_bind, show ((100 : Int)) = ((100 : Nat) : Int) from rfl, show ((2100 : Int)) = ((2100 : Nat) : Int) from rfl, show ((2000 : Int)) = ((2000 : Nat) : Int) from rfl, le_nat, le_nat, le_nat]
  cases decide (q.fMethod.length ≤ 100) && decide (q.fTarget.length ≤ 2100) <;> rfl
theorem keep_Response_eq (r : GResponse) : keep_Response r = some (keepR r) := by
  unfold keep_Response keepR
  rw [keep_Fields_eq, some_bind, show ((2100 : Int)) = ((2100 : Nat) : Int) from rfl, show ((2000 : Int)) = ((2000 : Nat) : Int) from rfl, le_nat, le_nat]
  cases decide (r.fReason.length ≤ 2100) <;> rfl
end Go.Eng.Pure
