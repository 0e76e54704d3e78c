/- A part of the proof of laws of the seat. -/
import Derived.Test.YtogfdiigokidaaaGreatDoorEng13
import Derived.Test.YtogfdiigokidaaaGreatDoorPure2
import Derived.Sort.Walk0
import Derived.Lib.ItoaNum
/- Plain lemmas: list operations that may fail, loops. No program stands in them. -/
namespace Go.Eng
open Go

theorem xnth_nat {α : Type} (l : List α) (n : Nat) : xnth l (n : Int) = l[n]? := by
  unfold xnth; rw [if_pos (by omega)]; rfl
theorem xnth_cons {α : Type} (a : α) (l : List α) : xnth (a :: l) 0 = some a := rfl
theorem xnth_last {α : Type} (l : List α) (a : α) : xnth (l ++ [a]) (l.length : Int) = some a := by
  rw [xnth_nat]; simp
theorem xsub_some {α : Type} {l : List α} {i j : Int} (h : 0 ≤ i ∧ i ≤ j ∧ j ≤ l.length) : xsub l i j = some ((l.take j.toNat).drop i.toNat) := by
  unfold xsub; rw [if_pos h]
theorem xsub_nat {α : Type} {l : List α} {i j : Nat} (h : i ≤ j ∧ j ≤ l.length) : xsub l (i : Int) (j : Int) = some ((l.take j).drop i) := by
  rw [xsub_some ⟨by omega, by omega, by omega⟩]; rfl
theorem xapp_some {α : Type} {l k : List α} (h : l.length + k.length ≤ big) : xapp l k = some (l ++ k) := by
  unfold xapp; rw [if_pos h]
theorem xcat_some {a b : Str} (h : a.length + b.length ≤ 2 * big) : xcat a b = some (a ++ b) := by
  unfold xcat; rw [if_pos (by simp only [big] at h; omega)]
theorem wr_nat {n : Int} (h0 : -1000000000000000000 ≤ n) (h : n ≤ 1000000000000000000) : wr n = n := wr_eq ⟨by omega, by omega⟩
theorem bif_true {α : Type} (x y : α) : (bif true then x else y) = x := rfl
theorem bif_false {α : Type} (x y : α) : (bif false then x else y) = y := rfl
theorem some_bind {α β : Type} (a : α) (f : α → Option β) : (some a).bind f = f a := rfl

/-- A loop that counts up to the length and stops at the first byte that is bad. -/
theorem while_any {α ρ : Type} (body : Int → Option (Int ⊕ ρ)) (l : List α) (bad : α → Bool) (stop done : ρ)
    (h : ∀ (n : Nat) (hn : n < l.length), body (n : Int) = some (if bad l[n] = true then .inr stop else .inl ((n : Int) + 1)))
    (h' : body (l.length : Int) = some (.inr done)) : whileO body 0 = some (if l.any bad then stop else done) := by
  have key : ∀ (k n : Nat), n + k = l.length → whileO body (n : Int) = some (if (l.drop n).any bad then stop else done) := by
    intro k
    induction k with
    | zero =>
      intro n hn
      have : n = l.length := by omega
      subst this
      rw [whileO_done h']
      simp
    | succ k ih =>
      intro n hn
      have hlt : n < l.length := by omega
      have hb := h n hlt
      rw [List.drop_eq_getElem_cons hlt, List.any_cons]
      by_cases hbad : bad l[n] = true
      · rw [if_pos hbad] at hb
        rw [whileO_done hb, hbad]; simp
      · rw [if_neg hbad] at hb
        rw [whileO_next hb]
        have e : ((n : Int) + 1) = ((n + 1 : Nat) : Int) := by omega
        rw [e, ih (n + 1) (by omega)]
        simp [hbad]
  simpa using key l.length 0 (by omega)

/-! what is cut off at an end -/
def rtrim (p : UInt8 → Bool) (s : Str) : Str := (s.reverse.dropWhile p).reverse
def ltrim (p : UInt8 → Bool) (s : Str) : Str := s.dropWhile p
theorem rtrim_snoc (p : UInt8 → Bool) (s : Str) (c : UInt8) : rtrim p (s ++ [c]) = if p c then rtrim p s else s ++ [c] := by
  unfold rtrim
  rw [List.reverse_append]
  simp only [List.reverse_cons, List.reverse_nil, List.nil_append, List.singleton_append, List.dropWhile_cons]
  cases p c <;> simp
theorem ltrim_len (p : UInt8 → Bool) (s : Str) : (ltrim p s).length ≤ s.length := (List.dropWhile_sublist p).length_le
/-- A loop that cuts the last byte off while it is one of p. -/
theorem while_rtrim (body : Str → Option (Str ⊕ Str)) (p : UInt8 → Bool) (B : Nat) (h1 : ∀ (s : Str) (c : UInt8), s.length + 1 ≤ B → body (s ++ [c]) = some (if p c then .inl s else .inr (s ++ [c]))) (h0 : body [] = some (.inr [])) :
    ∀ (n : Nat) (s : Str), s.length = n → s.length ≤ B → whileO body s = some (rtrim p s) := by
  intro n
  induction n with
  | zero =>
    intro s hs _
    obtain rfl := List.eq_nil_of_length_eq_zero hs
    rw [whileO_done h0]; rfl
  | succ n ih =>
    intro s hs hB
    rcases List.eq_nil_or_concat s with rfl | ⟨t, c, rfl⟩
    · cases hs
    · rw [List.concat_eq_append] at hs hB ⊢
      simp only [List.length_append, List.length_cons, List.length_nil] at hs hB
      have hb := h1 t c (by omega)
      rw [rtrim_snoc]
      cases hp : p c with
      | true => rw [hp] at hb; rw [whileO_next (by simpa using hb), ih t (by omega) (by omega)]; simp
      | false => rw [hp] at hb; rw [whileO_done (by simpa using hb)]; simp
/-- A loop that cuts the first byte off while it is one of p. -/
theorem while_ltrim (body : Str → Option (Str ⊕ Str)) (p : UInt8 → Bool) (h1 : ∀ (s : Str) (c : UInt8), body (c :: s) = some (if p c then .inl s else .inr (c :: s))) (h0 : body [] = some (.inr [])) :
    ∀ (s : Str), whileO body s = some (ltrim p s) := by
  intro s
  induction s with
  | nil => rw [whileO_done h0]; rfl
  | cons c s ih =>
    have hb := h1 s c
    unfold ltrim
    rw [List.dropWhile_cons]
    cases hp : p c with
    | true => rw [hp] at hb; rw [whileO_next (by simpa using hb), ih]; rfl
    | false => rw [hp] at hb; rw [whileO_done (by simpa using hb)]; rfl
theorem xnth_lastw (s : Str) (c : UInt8) : xnth (s ++ [c]) (((s ++ [c]).length : Int) - 1) = some c := by
  have e : (((s ++ [c]).length : Int) - 1) = (s.length : Int) := by simp
  rw [e, xnth_last]
theorem xsub_lastw (s : Str) (c : UInt8) : xsub (s ++ [c]) 0 (((s ++ [c]).length : Int) - 1) = some s := by
  have e : (((s ++ [c]).length : Int) - 1) = (s.length : Int) := by simp
  rw [e, xsub_some ⟨by omega, by omega, by simp; omega⟩]
  simp
theorem wr_len1 {α : Type} (s : List α) (h : s.length ≤ 4 * big) : wr ((s.length : Int) - 1) = (s.length : Int) - 1 := wr_nat (by omega) (by simp only [big] at h; omega)
end Go.Eng

/- Plain lemmas: walks over lists, as loops. No program stands in them. -/
namespace Go.Eng
open Go

/-- A walk over a list that may stop. -/
def run {α σ ρ : Type} (f : σ → α → σ ⊕ ρ) (fin : σ → ρ) : List α → σ → ρ
  | [], st => fin st
  | x :: l, st => match f st x with | .inl st' => run f fin l st' | .inr r => r
/-- A loop over the numbers of a list, from n on, with an invariant. -/
theorem while_run {S α σ ρ : Type} (mk : σ → Int → S) (l : List α) (f : σ → α → σ ⊕ ρ) (fin : σ → ρ) (body : S → Option (S ⊕ ρ)) (I : Nat → σ → Prop)
    (h : ∀ (n : Nat) (hn : n < l.length) st, I n st → body (mk st (n : Int)) = some (match f st l[n] with | .inl st' => .inl (mk st' ((n + 1 : Nat) : Int)) | .inr r => .inr r) ∧ ∀ st', f st l[n] = .inl st' → I (n + 1) st')
    (h' : ∀ st, I l.length st → body (mk st (l.length : Int)) = some (.inr (fin st))) :
    ∀ (k n : Nat) (st : σ), n + k = l.length → I n st → whileO body (mk st (n : Int)) = some (run f fin (l.drop n) st) := by
  intro k
  induction k with
  | zero =>
    intro n st hn hI
    have : n = l.length := by omega
    subst this
    rw [whileO_done (h' st hI)]
    simp [run]
  | succ k ih =>
    intro n st hn hI
    have hlt : n < l.length := by omega
    obtain ⟨hb, hs⟩ := h n hlt st hI
    rw [List.drop_eq_getElem_cons hlt]
    unfold run
    cases hf : f st l[n] with
    | inl st' => rw [hf] at hb; rw [whileO_next hb, ih (n + 1) st' (by omega) (hs st' hf)]
    | inr r => rw [hf] at hb; rw [whileO_done hb]
theorem while_run0 {S α σ ρ : Type} (mk : σ → Int → S) (l : List α) (f : σ → α → σ ⊕ ρ) (fin : σ → ρ) (body : S → Option (S ⊕ ρ)) (I : Nat → σ → Prop) (st : σ) (hI : I 0 st)
    (h : ∀ (n : Nat) (hn : n < l.length) st, I n st → body (mk st (n : Int)) = some (match f st l[n] with | .inl st' => .inl (mk st' ((n + 1 : Nat) : Int)) | .inr r => .inr r) ∧ ∀ st', f st l[n] = .inl st' → I (n + 1) st')
    (h' : ∀ st, I l.length st → body (mk st (l.length : Int)) = some (.inr (fin st))) :
    whileO body (mk st 0) = some (run f fin l st) := by
  have := while_run mk l f fin body I h h' l.length 0 st (by omega) hI
  simpa using this
theorem lt_nat (n m : Nat) : decide ((n : Int) < (m : Int)) = decide (n < m) := by
  by_cases h : n < m
  · rw [decide_eq_true h, decide_eq_true (by omega)]
  · rw [decide_eq_false h, decide_eq_false (by omega)]
theorem le_nat (n m : Nat) : decide ((n : Int) ≤ (m : Int)) = decide (n ≤ m) := by
  by_cases h : n ≤ m
  · rw [decide_eq_true h, decide_eq_true (by omega)]
  · rw [decide_eq_false h, decide_eq_false (by omega)]
theorem lt_true {n m : Nat} (h : n < m) : decide ((n : Int) < (m : Int)) = true := decide_eq_true (by omega)
theorem lt_false {n m : Nat} (h : m ≤ n) : decide ((n : Int) < (m : Int)) = false := decide_eq_false (by omega)
theorem xnth_get {α : Type} {l : List α} {n : Nat} (h : n < l.length) : xnth l (n : Int) = some l[n] := by rw [xnth_nat, List.getElem?_eq_getElem h]
/-- The step of a counter. -/
theorem wr_succ {n : Nat} (h : n ≤ 4 * big) : wr ((n : Int) + 1) = ((n + 1 : Nat) : Int) := by
  rw [wr_nat (by omega) (by simp only [big] at h; omega)]; omega
theorem wr_ofNat {n : Nat} (h : n ≤ 4 * big) : wr (n : Int) = (n : Int) := wr_nat (by omega) (by simp only [big] at h; omega)
theorem xsub_from {α : Type} {l : List α} {i : Nat} (h : i ≤ l.length) : xsub l (i : Int) (l.length : Int) = some (l.drop i) := by
  rw [xsub_nat ⟨h, Nat.le_refl _⟩, List.take_length]
theorem xsub_to {α : Type} {l : List α} {j : Nat} (h : j ≤ l.length) : xsub l 0 (j : Int) = some (l.take j) := by
  have := xsub_nat (l := l) (i := 0) (j := j) ⟨by omega, h⟩
  simpa using this
end Go.Eng

/- Layers 1, 3 and 7: letters, blanks, fields, members: what the functions compute, in plain words. -/
namespace Go.Eng
open Go
theorem while_count {S ρ : Type} (st : Nat → S) (N : Nat) (r : ρ) (body : S → Option (S ⊕ ρ)) (h : ∀ n, n < N → body (st n) = some (.inl (st (n + 1)))) (h' : body (st N) = some (.inr r)) : whileO body (st 0) = some r := by
  have key : ∀ k n, n + k = N → whileO body (st n) = some r := by
    intro k
    induction k with
    | zero => intro n hn; obtain rfl : n = N := by omega
              exact whileO_done h'
    | succ k ih => intro n hn; rw [whileO_next (h n (by omega)), ih (n + 1) (by omega)]
  exact key N 0 (by omega)
theorem wrs {n : Nat} (h : n ≤ 4 * 1073741824) : wr ((n : Int) + 1) = ((n + 1 : Nat) : Int) := wr_succ (by simp only [big] at *; omega)
theorem wrn {n : Nat} (h : n ≤ 4 * 1073741824) : wr (n : Int) = (n : Int) := wr_ofNat (by simp only [big] at *; omega)
theorem xapp_sm {α : Type} {l k : List α} (h : l.length ≤ 64 * 1073741824) (h' : k.length ≤ 64 * 1073741824) : xapp l k = some (l ++ k) := xapp_some (by simp only [big] at *; omega)
theorem xcat_sm {a b : Str} (h : a.length ≤ 64 * 1073741824) (h' : b.length ≤ 64 * 1073741824) : xcat a b = some (a ++ b) := xcat_some (by simp only [big] at *; omega)
theorem take_succ_get {α : Type} {l : List α} {n : Nat} (h : n < l.length) : l.take (n + 1) = l.take n ++ [l[n]] := by
  rw [List.take_succ_eq_append_getElem h]
theorem eqI (a b : Nat) : (((a : Int) == (b : Int)) : Bool) = (a == b) := by
  rw [Bool.eq_iff_iff]; simp only [beq_iff_eq]; omega
theorem neI (a b : Nat) : (((a : Int) != (b : Int)) : Bool) = (a != b) := by
  rw [Bool.eq_iff_iff]; simp only [bne_iff_ne, ne_eq]; omega
theorem one_sm {α : Type} (x : α) : [x].length ≤ 64 * 1073741824 := by simp only [List.length_cons, List.length_nil]; omega
end Go.Eng
namespace Go.Eng.Pure
open Go Go.Eng
/-! letters -/
def lowB (c : UInt8) : UInt8 := if decide (65 ≤ c) && decide (c ≤ 90) then c + 32 else c
def lower (s : Str) : Str := s.map lowB
theorem lower_len (s : Str) : (lower s).length = s.length := by simp [lower]
theorem add97 (c : UInt8) : (c + 97) - 65 = c + 32 := by
  have : (97 : UInt8) = 32 + 65 := rfl
  rw [this, ← UInt8.add_assoc, UInt8.add_sub_cancel]
theorem low_get (s : Str) (n : Nat) (h : n < s.length) : xnth ((s.take n).map lowB ++ s.drop n) (n : Int) = some s[n] := by
  rw [xnth_nat, List.getElem?_append_right (by simp; omega)]
  simp [Nat.min_eq_left (Nat.le_of_lt h)]
theorem low_set (s : Str) (n : Nat) (h : n < s.length) (c : UInt8) : ((s.take n).map lowB ++ s.drop n).set n c = (s.take n).map lowB ++ c :: s.drop (n + 1) := by
  have e : ((s.take n).map lowB).length = n := by rw [List.length_map, List.length_take]; omega
  rw [List.set_append_right _ _ (by omega), List.drop_eq_getElem_cons h, e, Nat.sub_self, List.set_cons_zero]
theorem low_next (s : Str) (n : Nat) (h : n < s.length) : (s.take n).map lowB ++ lowB s[n] :: s.drop (n + 1) = (s.take (n + 1)).map lowB ++ s.drop (n + 1) := by
  rw [take_succ_get h, List.map_append, List.append_assoc]; rfl
theorem Lower_eq (s : Str) (hs : s.length ≤ 1073741824) : ascii_Lower s = some (lower s) := by
  have := while_count (fun n => ((n : Int), (s.take n).map lowB ++ s.drop n)) s.length (lower s) (ascii_Lower_L0 s) ?_ ?_
  · unfold ascii_Lower
    have e : ((0 : Int), s) = (((0 : Nat) : Int), (s.take 0).map lowB ++ s.drop 0) := by simp
    rw [e, this]; rfl
  · intro n hn
    simp only [ascii_Lower_L0, lt_true hn, bif_true, low_get s n hn, some_bind, wrs (show n ≤ 4 * 1073741824 by omega), add97, Int.toNat_natCast]
    cases hc : (decide (65 ≤ s[n]) && decide (s[n] ≤ 90)) with
    | true =>
      rw [bif_true, low_set s n hn, ← low_next s n hn]
      simp [lowB, hc]
    | false =>
      rw [bif_false, ← low_next s n hn]
      simp [lowB, hc]
  · simp only [ascii_Lower_L0, lt_false (Nat.le_refl s.length), bif_false, List.take_length, List.drop_length, List.append_nil]
    rfl
theorem RLower_eq (s : Str) (hs : s.length ≤ 1073741824) : ref01_Lower s = some (lower s) := by
  have := while_count (fun n => ((n : Int), (s.take n).map lowB ++ s.drop n)) s.length (lower s) (ref01_Lower_L0 s) ?_ ?_
  · unfold ref01_Lower
    have e : ((0 : Int), s) = (((0 : Nat) : Int), (s.take 0).map lowB ++ s.drop 0) := by simp
    rw [e, this]; rfl
  · intro n hn
    simp only [ref01_Lower_L0, lt_true hn, bif_true, low_get s n hn, some_bind, wrs (show n ≤ 4 * 1073741824 by omega), Int.toNat_natCast]
    have e : (bif decide (65 ≤ s[n]) then some (decide (s[n] ≤ 90)) else some false) = some (decide (65 ≤ s[n]) && decide (s[n] ≤ 90)) := by cases decide (65 ≤ s[n]) <;> rfl
    rw [e, some_bind]
    cases hc : (decide (65 ≤ s[n]) && decide (s[n] ≤ 90)) with
    | true =>
      rw [bif_true, low_set s n hn, ← low_next s n hn]
      simp [lowB, hc]
    | false =>
      rw [bif_false, ← low_next s n hn]
      simp [lowB, hc]
  · simp only [ref01_Lower_L0, lt_false (Nat.le_refl s.length), bif_false, List.take_length, List.drop_length, List.append_nil]
    rfl
def fold (a b : Str) : Bool := a.length == b.length && lower a == lower b
theorem RFold_eq (a b : Str) (ha : a.length ≤ 1073741824) (hb : b.length ≤ 1073741824) : ref01_Fold a b = some (fold a b) := by
  simp only [ref01_Fold, RLower_eq a ha, RLower_eq b hb, some_bind, eqI, fold]
  cases a.length == b.length <;> rfl
/-! fields -/
def smF (f : GField) : Prop := f.fName.length ≤ 1073741824 ∧ f.fValue.length ≤ 1073741824
def getF (l : List GField) (name : Str) : List Str := (l.filter fun f => fold f.fName name).map (·.fValue)
theorem named_eq (name : Str) (hn : name.length ≤ 1073741824) (f : GField) (hf : smF f) : fieldline_named_1 f (lower name) = some (fold f.fName name) := by
  simp only [fieldline_named_1, Lower_eq _ hf.1, some_bind, eqI, lower_len, fold]
  cases f.fName.length == name.length <;> rfl
theorem filter_eq (l : List GField) (keep : GField → Option Bool) (p : GField → Bool) (hl : l.length ≤ 1073741824) (h : ∀ f ∈ l, keep f = some (p f)) : fieldline_filter l keep = some (l.filter p) := by
  have := while_count (fun n => ((l.take n).filter p, (n : Int))) l.length (l.filter p) (fieldline_filter_L0 l keep) ?_ ?_
  · unfold fieldline_filter
    have e : (([] : List GField), (0 : Int)) = ((l.take 0).filter p, ((0 : Nat) : Int)) := by simp
    rw [e, this]; rfl
  · intro n hn
    have hln : ((l.take n).filter p).length ≤ n := Nat.le_trans (List.length_filter_le _ _) (by simp; omega)
    simp only [fieldline_filter_L0, lt_true hn, bif_true, xnth_get hn, some_bind, h _ (List.getElem_mem hn), wrs (show n ≤ 4 * 1073741824 by omega), take_succ_get hn, List.filter_append]
    rw [xapp_sm (by omega) (one_sm _)]
    cases hp : p l[n] <;> simp [hp]
  · simp only [fieldline_filter_L0, lt_false (Nat.le_refl l.length), bif_false, List.take_length]
theorem Get_eq (l : List GField) (name : Str) (hl : l.length ≤ 1073741824) (hf : ∀ f ∈ l, smF f) (hn : name.length ≤ 1073741824) : fieldline_Get l name = some (getF l name) := by
  unfold fieldline_Get fieldline_named
  rw [Lower_eq _ hn]
  simp only [some_bind]
  rw [filter_eq l _ (fun f => fold f.fName name) hl (fun f h => named_eq name hn f (hf f h))]
  simp only [some_bind]
  have hk : (l.filter fun f => fold f.fName name).length ≤ 1073741824 := Nat.le_trans (List.length_filter_le _ _) hl
  generalize hg : (l.filter fun f => fold f.fName name) = k at hk ⊢
  have := while_count (fun n => ((k.take n).map (·.fValue), (n : Int))) k.length (k.map (·.fValue)) (fieldline_Get_L0 k) ?_ ?_
  · have e : (([] : List Str), (0 : Int)) = ((k.take 0).map (·.fValue), ((0 : Nat) : Int)) := by simp
    rw [e, this]
    simp [getF, hg]
  · intro n hn
    simp only [fieldline_Get_L0, lt_true hn, bif_true, xnth_get hn, some_bind, wrs (show n ≤ 4 * 1073741824 by omega), take_succ_get hn, List.map_append]
    rw [xapp_sm (by simp; omega) (one_sm _)]
    rfl
  · simp only [fieldline_Get_L0, lt_false (Nat.le_refl k.length), bif_false, List.take_length]
theorem RGet_eq (l : List GField) (name : Str) (hl : l.length ≤ 1073741824) (hf : ∀ f ∈ l, smF f) (hn : name.length ≤ 1073741824) : ref01_Get l name = some (getF l name) := by
  have := while_count (fun n => (getF (l.take n) name, (n : Int))) l.length (getF l name) (ref01_Get_L0 l name) ?_ ?_
  · unfold ref01_Get
    have e : (([] : List Str), (0 : Int)) = (getF (l.take 0) name, ((0 : Nat) : Int)) := by simp [getF]
    rw [e, this]; rfl
  · intro n hn'
    have hln : (getF (l.take n) name).length ≤ n := by simp only [getF, List.length_map]; exact Nat.le_trans (List.length_filter_le _ _) (by simp; omega)
    simp only [ref01_Get_L0, lt_true hn', bif_true, xnth_get hn', some_bind, RFold_eq _ _ (hf _ (List.getElem_mem hn')).1 hn, wrs (show n ≤ 4 * 1073741824 by omega)]
    rw [xapp_sm (by omega) (one_sm _)]
    have e : getF (l.take (n + 1)) name = if fold l[n].fName name then getF (l.take n) name ++ [l[n].fValue] else getF (l.take n) name := by
      unfold getF
      rw [take_succ_get hn', List.filter_append, List.map_append]
      cases hp : fold l[n].fName name <;> simp [hp]
    rw [e]
    cases fold l[n].fName name <;> rfl
  · simp only [ref01_Get_L0, lt_false (Nat.le_refl l.length), bif_false, List.take_length]
theorem getF_sm (l : List GField) (name : Str) (B : Nat) (hf : ∀ f ∈ l, f.fValue.length ≤ B) : ∀ v ∈ getF l name, v.length ≤ B := by
  intro v hv
  simp only [getF, List.mem_map, List.mem_filter] at hv
  obtain ⟨f, ⟨hm, _⟩, rfl⟩ := hv
  exact hf f hm
end Go.Eng.Pure

/- Layer 7: blanks at the ends, members of lists: what the functions compute, in plain words. -/
namespace Go.Eng.Pure
open Go Go.Eng
set_option linter.unusedVariables false
/-! blanks -/
def bl (c : UInt8) : Bool := c == 32 || c == 9
def trim (s : Str) : Str := ltrim bl (rtrim bl s)
theorem dropWhile_nil (p : UInt8 → Bool) (l : List UInt8) : l.dropWhile p = [] ↔ ∀ x ∈ l, p x = true := by
  induction l with
  | nil => simp
  | cons a l ih =>
    rw [List.dropWhile_cons]
    cases ha : p a <;> simp [ha, ih]
theorem pos_snoc (s : Str) (c : UInt8) : decide (0 < (((s ++ [c]).length : Nat) : Int)) = true := decide_eq_true (by rw [List.length_append, List.length_singleton]; omega)
theorem pos_cons (s : Str) (c : UInt8) : decide (0 < (((c :: s).length : Nat) : Int)) = true := decide_eq_true (by rw [List.length_cons]; omega)
theorem len_snoc (s : Str) (c : UInt8) : (s ++ [c]).length = s.length + 1 := by rw [List.length_append, List.length_singleton]
theorem blank_eq (c : UInt8) : ref01_blank c = some (bl c) := rfl
theorem rtrim_all (p : UInt8 → Bool) (s : Str) (h : s.all p = true) : rtrim p s = [] := by
  unfold rtrim
  rw [(dropWhile_nil p _).2 fun x hx => List.all_eq_true.1 h x (List.mem_reverse.1 hx)]
  rfl
theorem rtrim_cons_ne (p : UInt8 → Bool) (c : UInt8) (s : Str) (h : s.all p = false) : rtrim p (c :: s) = c :: rtrim p s := by
  unfold rtrim
  rw [List.reverse_cons, List.dropWhile_append]
  have : (s.reverse.dropWhile p).isEmpty = false := by
    rw [Bool.eq_false_iff]
    intro h2
    rw [List.isEmpty_iff, dropWhile_nil] at h2
    rw [Bool.eq_false_iff] at h
    exact h (List.all_eq_true.2 fun x hx => h2 x (List.mem_reverse.2 hx))
  rw [this]; simp
theorem trim_comm (p : UInt8 → Bool) (s : Str) : rtrim p (ltrim p s) = ltrim p (rtrim p s) := by
  induction s with
  | nil => rfl
  | cons c s ih =>
    by_cases hs : s.all p = true
    · by_cases hc : p c = true
      · have h1 : rtrim p (c :: s) = [] := rtrim_all p _ (by rw [List.all_cons, hc, hs]; rfl)
        rw [h1]
        have h2 : ltrim p (c :: s) = ltrim p s := by unfold ltrim; rw [List.dropWhile_cons, if_pos hc]
        rw [h2, ih, rtrim_all p s hs]
      · have h2 : ltrim p (c :: s) = c :: s := by unfold ltrim; rw [List.dropWhile_cons, if_neg hc]
        have h3 : rtrim p (c :: s) = [c] := by
          unfold rtrim
          rw [List.reverse_cons, List.dropWhile_append]
          have : s.reverse.dropWhile p = [] := (dropWhile_nil p _).2 fun x hx => List.all_eq_true.1 hs x (List.mem_reverse.1 hx)
          rw [this]
          simp [hc]
        rw [h2, h3]
        unfold ltrim; rw [List.dropWhile_cons, if_neg hc]
    · have hs' : s.all p = false := by simpa using hs
      rw [rtrim_cons_ne p c s hs']
      by_cases hc : p c = true
      · have h2 : ltrim p (c :: s) = ltrim p s := by unfold ltrim; rw [List.dropWhile_cons, if_pos hc]
        have h4 : ltrim p (c :: rtrim p s) = ltrim p (rtrim p s) := by unfold ltrim; rw [List.dropWhile_cons, if_pos hc]
        rw [h2, h4, ih]
      · have h2 : ltrim p (c :: s) = c :: s := by unfold ltrim; rw [List.dropWhile_cons, if_neg hc]
        have h4 : ltrim p (c :: rtrim p s) = c :: rtrim p s := by unfold ltrim; rw [List.dropWhile_cons, if_neg hc]
        rw [h2, h4, rtrim_cons_ne p c s hs']
theorem set_bl (c : UInt8) : ([32, 9] : Str).contains c = bl c := by
  simp only [List.contains_cons, List.contains_nil, Bool.or_false, bl]
theorem trimR_ascii (s : Str) (hs : s.length ≤ 1073741824) : strings_trimRightASCII s [32, 9] = some (rtrim bl s) := by
  unfold strings_trimRightASCII
  rw [while_rtrim (strings_trimRightASCII_L0 [32, 9]) bl 1073741824 ?_ rfl _ s rfl hs]
  · rfl
  · intro s c hl
    have h0 := pos_snoc s c
    simp only [strings_trimRightASCII_L0, h0, bif_true, wr_len1 (s ++ [c]) (by rw [len_snoc]; simp only [big]; omega), xnth_lastw, some_bind, strings_asciiSet_contains, set_bl, xsub_lastw]
    cases bl c <;> rfl
theorem trimL_ascii (s : Str) : strings_trimLeftASCII s [32, 9] = some (ltrim bl s) := by
  unfold strings_trimLeftASCII
  rw [while_ltrim (strings_trimLeftASCII_L0 [32, 9]) bl ?_ rfl s]
  · rfl
  · intro s c
    have h0 := pos_cons s c
    have h1 : xsub (c :: s) 1 ((c :: s).length : Nat) = some s := by
      have := xsub_from (l := c :: s) (i := 1) (by simp)
      simpa using this
    simp only [strings_trimLeftASCII_L0, h0, bif_true, xnth_cons, some_bind, strings_asciiSet_contains, set_bl, h1]
    cases bl c <;> rfl
theorem Trim_eq (s : Str) (hs : s.length ≤ 1073741824) : ascii_Trim s = some (trim s) := by
  unfold ascii_Trim strings_Trim
  have e1 : (([32, 9] : Str) == []) = false := rfl
  have e2 : (((([32, 9] : Str).length : Nat) : Int) == 1) = false := rfl
  have e3 : strings_makeASCIISet [32, 9] = some () := rfl
  rw [e1, Bool.or_false]
  cases hn : (s == []) with
  | true => obtain rfl : s = [] := by simpa using hn
            rfl
  | false =>
    simp only [bif_false, e2, some_bind, e3, trimR_ascii s hs]
    rw [trimL_ascii]; rfl
theorem RTrim_eq (s : Str) (hs : s.length ≤ 1073741824) : ref01_Trim s = some (trim s) := by
  unfold ref01_Trim
  rw [while_ltrim ref01_Trim_L0 bl ?_ rfl s]
  · rw [some_bind, while_rtrim ref01_Trim_L1 bl 1073741824 ?_ rfl _ (ltrim bl s) rfl (Nat.le_trans (ltrim_len _ _) hs)]
    · rw [some_bind, trim_comm]; rfl
    · intro s c hl
      have h0 := pos_snoc s c
      simp only [ref01_Trim_L1, h0, bif_true, wr_len1 (s ++ [c]) (by rw [len_snoc]; simp only [big]; omega), xnth_lastw, some_bind, blank_eq, xsub_lastw]
      cases bl c <;> rfl
  · intro s c
    have h0 := pos_cons s c
    have h1 : xsub (c :: s) 1 ((c :: s).length : Nat) = some s := by
      have := xsub_from (l := c :: s) (i := 1) (by simp)
      simpa using this
    simp only [ref01_Trim_L0, h0, bif_true, xnth_cons, some_bind, blank_eq, h1]
    cases bl c <;> rfl
/-! cutting, but not within quotes: 0 outside, 1 inside, 2 behind a backslash -/
def step (st : Nat) (c : UInt8) : Nat := if st = 2 then 1 else if st = 1 ∧ c = 92 then 2 else if c = 34 then 1 - st else st
def segs (a : UInt8) : Nat → Str → Str → List Str
  | _, cur, [] => [cur]
  | st, cur, c :: r => if st = 0 ∧ c = a then cur :: segs a 0 [] r else segs a (step st c) (cur ++ [c]) r
def cutS (a : UInt8) (s : Str) : List Str := segs a 0 [] s
/-- The first members, without blanks, that are not empty. -/
def mem64 (l : List Str) : List Str := ((l.map trim).filter fun x => x != []).take 64
def split (s : Str) : List Str := mem64 (cutS 44 s)
end Go.Eng.Pure

/- Layer 1: tokens, texts, numbers, quoted strings: what the functions compute, in plain words. -/
namespace Go.Eng.Pure
open Go Go.Eng
set_option linter.unusedVariables false
theorem all_u8 (p : UInt8 → Bool) (h : (List.range 256).all (fun n => p (UInt8.ofNat n)) = true) (c : UInt8) : p c = true := by
  have h1 := List.all_eq_true.1 h c.toNat (List.mem_range.2 c.toNat_lt)
  rwa [UInt8.ofNat_toNat] at h1
def signs : Str := [33, 35, 36, 37, 38, 39, 42, 43, 45, 46, 94, 95, 96, 124, 126]
def tokB (c : UInt8) : Bool := (((decide (97 ≤ c)) && (decide (c ≤ 122))) || ((decide (65 ≤ c)) && (decide (c ≤ 90)))) || ((decide (48 ≤ c)) && (decide (c ≤ 57))) || signs.contains c
def tok (s : Str) : Bool := s.all tokB && s != []
def txtB (c : UInt8) : Bool := ((c == 9) || ((decide (32 ≤ c)) && (decide (c ≤ 126)))) || (decide (128 ≤ c))
def txt (s : Str) : Bool := s.all txtB
theorem part_eq (c : UInt8) : ascii_part c = some (tokB c) := by
  have := all_u8 (fun c => decide (ascii_part c = some (tokB c))) (by decide +kernel) c
  simpa using this
/-- A loop that looks for a bad byte. -/
theorem while_bad (l : Str) (hl : l.length ≤ 1073741824) (bad : UInt8 → Bool) (body : Int → Option (Int ⊕ (Unit ⊕ Bool))) (r : Bool)
    (h : ∀ (n : Nat) (hn : n < l.length), body (n : Int) = some (if bad l[n] = true then .inr (.inr r) else .inl (wr ((n : Int) + 1)))) (h' : body (l.length : Int) = some (.inr (.inl ()))) :
    whileO body 0 = some (if l.any bad then .inr r else .inl ()) := by
  refine while_any body l bad (.inr r) (.inl ()) (fun n hn => ?_) h'
  have e2 : wr ((n : Int) + 1) = (n : Int) + 1 := by rw [wrs (by omega)]; omega
  rw [h n hn, e2]
theorem TokenByte_eq (c : UInt8) : ref01_TokenByte c = some (tokB c) := by
  unfold ref01_TokenByte tokB
  rw [while_bad signs (by decide) (fun x => x == c) (ref01_TokenByte_L0 c) true]
  · have : signs.contains c = signs.any (fun x => x == c) := by
      rw [List.contains_eq_any_beq]
      congr 1; funext x
      rw [Bool.eq_iff_iff]; simp only [beq_iff_eq]; exact ⟨fun h => h.symm, fun h => h.symm⟩
    rw [this]
    cases ((((decide (97 ≤ c)) && (decide (c ≤ 122))) || ((decide (65 ≤ c)) && (decide (c ≤ 90)))) || ((decide (48 ≤ c)) && (decide (c ≤ 57)))) with
    | true => rfl
    | false => cases signs.any (fun x => x == c) <;> rfl
  · intro n hn
    have e1 : decide ((n : Int) < 15) = true := lt_true hn
    have e2 : xnth ([33, 35, 36, 37, 38, 39, 42, 43, 45, 46, 94, 95, 96, 124, 126] : Str) (n : Int) = some signs[n] := xnth_get hn
    simp only [ref01_TokenByte_L0, e1, bif_true, e2, some_bind]
    cases signs[n] == c <;> rfl
  · rfl
theorem not_any (l : Str) (p : UInt8 → Bool) : l.any (fun c => !p c) = !l.all p := by
  induction l with
  | nil => rfl
  | cons a l ih => rw [List.any_cons, List.all_cons, ih, Bool.not_and]
theorem Token_eq (s : Str) (hs : s.length ≤ 1073741824) : ascii_Token s = some (tok s) := by
  unfold ascii_Token tok
  rw [while_bad s hs (fun c => !tokB c) (ascii_Token_L0 s) false]
  · rw [not_any]; cases s.all tokB <;> rfl
  · intro n hn
    simp only [ascii_Token_L0, lt_true hn, bif_true, xnth_get hn, some_bind, part_eq]
    cases tokB s[n] <;> rfl
  · simp only [ascii_Token_L0, lt_false (Nat.le_refl s.length), bif_false]
theorem RToken_eq (s : Str) (hs : s.length ≤ 1073741824) : ref01_Token s = some (tok s) := by
  unfold ref01_Token tok
  rw [while_bad s hs (fun c => !tokB c) (ref01_Token_L0 s) false]
  · rw [not_any]; cases s.all tokB <;> rfl
  · intro n hn
    simp only [ref01_Token_L0, lt_true hn, bif_true, xnth_get hn, some_bind, TokenByte_eq]
    cases tokB s[n] <;> rfl
  · simp only [ref01_Token_L0, lt_false (Nat.le_refl s.length), bif_false]
theorem textByte_eq (c : UInt8) : ref01_textByte c = some (txtB c) := rfl
theorem text_eq (c : UInt8) : ((bif decide (c < 32) then some (c != 9) else some false).bind fun b17 => (bif b17 then some true else some (c == 127))) = some (!txtB c) := by
  have := all_u8 (fun c => decide (((bif decide (c < 32) then some (c != 9) else some false).bind fun b17 => (bif b17 then some true else some (c == 127))) = some (!txtB c))) (by decide +kernel) c
  simpa using this
theorem Text_eq (s : Str) (hs : s.length ≤ 1073741824) : ascii_Text s = some (txt s) := by
  unfold ascii_Text txt
  rw [while_bad s hs (fun c => !txtB c) (ascii_Text_L0 s) false]
  · rw [not_any]; cases s.all txtB <;> rfl
  · intro n hn
    have e := text_eq s[n]
    have e' : ((bif decide (s[n] < 32) then some (s[n] != 9) else some false).bind fun b17 => (bif b17 then some true else some (s[n] == 127)).bind fun b21 => (bif b21 then some (.inr (.inr false)) else some (.inl (wr ((n : Int) + 1))) : Option (Int ⊕ (Unit ⊕ Bool)))) = (some (!txtB s[n])).bind fun b21 => (bif b21 then some (.inr (.inr false)) else some (.inl (wr ((n : Int) + 1)))) := by
      rw [← e, Option.bind_assoc]
    simp only [ascii_Text_L0, lt_true hn, bif_true, xnth_get hn, some_bind]
    rw [e', some_bind]
    cases txtB s[n] <;> rfl
  · simp only [ascii_Text_L0, lt_false (Nat.le_refl s.length), bif_false]
theorem RText_eq (s : Str) (hs : s.length ≤ 1073741824) : ref01_Text s = some (txt s) := by
  unfold ref01_Text txt
  rw [while_bad s hs (fun c => !txtB c) (ref01_Text_L0 s) false]
  · rw [not_any]; cases s.all txtB <;> rfl
  · intro n hn
    simp only [ref01_Text_L0, lt_true hn, bif_true, xnth_get hn, some_bind, textByte_eq]
    cases txtB s[n] <;> rfl
  · simp only [ref01_Text_L0, lt_false (Nat.le_refl s.length), bif_false]
/-! numbers -/
def isD (c : UInt8) : Bool := (decide (48 ≤ c)) && (decide (c ≤ 57))
def dvI (c : UInt8) : Int := ((c - 48).toNat : Int)
def cap (n : Int) : Int := if 2147483647 < n then 2147483647 else n
theorem RDigit_eq (c : UInt8) : ref01_Digit c = some (isD c) := rfl
theorem dvI_le (c : UInt8) (h : isD c = true) : 0 ≤ dvI c ∧ dvI c ≤ 9 := by
  have := all_u8 (fun c => !isD c || (decide (0 ≤ dvI c) && decide (dvI c ≤ 9))) (by decide +kernel) c
  rw [h] at this
  simpa using this
theorem isD_neg (c : UInt8) : (bif decide (c < 48) then some true else some (decide (57 < c))) = some (!isD c) := by
  have := all_u8 (fun c => decide ((bif decide (c < 48) then some true else some (decide (57 < c))) = some (!isD c))) (by decide +kernel) c
  simpa using this
def numL : Str → Int → Option Int
  | [], n => some n
  | c :: r, n => if isD c then numL r (cap (10 * n + dvI c)) else none
def num (s : Str) : Int × Bool := match numL s 0 with | some n => (n, s != []) | none => (0, false)
theorem cap_bd {n : Int} (h : 0 ≤ n) : 0 ≤ cap n ∧ cap n ≤ 2147483647 := by unfold cap; split <;> omega
def numStep (n : Int) (c : UInt8) : Int ⊕ (Int ⊕ (Int × Bool)) := if isD c then .inl (cap (10 * n + dvI c)) else .inr (.inr (0, false))
theorem num_run : ∀ (s : Str) (n : Int), run numStep .inl s n = match numL s n with | some n => .inl n | none => .inr (0, false)
  | [], n => rfl
  | c :: r, n => by
    unfold run numL numStep
    cases isD c with
    | true => exact num_run r _
    | false => rfl
theorem Number_eq (s : Str) (hs : s.length ≤ 1073741824) : ascii_Number s = some (num s) := by
  unfold ascii_Number num
  have h := while_run0 (fun (n : Int) (i : Int) => (n, i)) s numStep .inl (ascii_Number_L0 s) (fun _ n => 0 ≤ n ∧ n ≤ 2147483647) 0 ⟨by decide, by decide⟩ ?_ ?_
  · rw [h, some_bind, num_run]
    cases numL s 0 <;> rfl
  · intro n hn m hm
    unfold numStep
    refine ⟨?_, fun st' h => ?_⟩
    · simp only [ascii_Number_L0, lt_true hn, bif_true, xnth_get hn, some_bind]
      have e : ∀ x : Option Bool, x = some (!isD s[n]) → (x.bind fun b22 => (bif b22 then some (.inr (.inr (0, false))) else some (.inl ((if 2147483647 < (wr ((wr (10 * m)) + ((s[n] - 48).toNat : Int))) then 2147483647 else (wr ((wr (10 * m)) + ((s[n] - 48).toNat : Int)))), wr ((n : Int) + 1))) : Option ((Int × Int) ⊕ (Int ⊕ (Int × Bool))))) = some (if isD s[n] = true then .inl (cap (10 * m + dvI s[n]), ((n + 1 : Nat) : Int)) else .inr (.inr (0, false))) := by
        intro x hx
        rw [hx, some_bind]
        cases hd : isD s[n] with
        | false => rfl
        | true =>
          have hb := dvI_le _ hd
          have e1 : wr (10 * m) = 10 * m := wr_nat (by omega) (by omega)
          have e2 : ((s[n] - 48).toNat : Int) = dvI s[n] := rfl
          rw [e1, e2, wr_nat (n := 10 * m + dvI s[n]) (by omega) (by omega), wrs (by omega)]
          rfl
      rw [e _ (isD_neg s[n])]
      cases isD s[n] <;> rfl
    · split at h
      · rename_i hd
        have hb := dvI_le _ hd
        cases h
        exact cap_bd (by omega)
      · cases h
  · intro m _
    simp only [ascii_Number_L0, lt_false (Nat.le_refl s.length), bif_false]
theorem RNumber_eq (s : Str) (hs : s.length ≤ 1073741824) : ref01_Number s = some (num s) := by
  unfold ref01_Number num
  have h := while_run0 (fun (n : Int) (i : Int) => (n, i)) s numStep .inl (ref01_Number_L0 s) (fun _ n => 0 ≤ n ∧ n ≤ 2147483647) 0 ⟨by decide, by decide⟩ ?_ ?_
  · rw [h, some_bind, num_run]
    cases numL s 0 <;> rfl
  · intro n hn m hm
    unfold numStep
    refine ⟨?_, fun st' h => ?_⟩
    · simp only [ref01_Number_L0, lt_true hn, bif_true, xnth_get hn, some_bind, RDigit_eq]
      cases hd : isD s[n] with
      | false => rfl
      | true =>
        have hb := dvI_le _ hd
        have e1 : wr (m * 10) = 10 * m := by rw [wr_nat (by omega) (by omega)]; omega
        have e2 : ((s[n] - 48).toNat : Int) = dvI s[n] := rfl
        rw [Bool.not_true, bif_false, e1, e2, wr_nat (n := 10 * m + dvI s[n]) (by omega) (by omega), wrs (by omega)]
        unfold cap
        by_cases hc : 2147483647 < 10 * m + dvI s[n]
        · simp [hc]
        · simp [hc]
    · split at h
      · rename_i hd
        have hb := dvI_le _ hd
        cases h
        exact cap_bd (by omega)
      · cases h
  · intro m _
    simp only [ref01_Number_L0, lt_false (Nat.le_refl s.length), bif_false]
theorem numL_bd : ∀ (s : Str) (n m : Int), 0 ≤ n → n ≤ 2147483647 → numL s n = some m → 0 ≤ m ∧ m ≤ 2147483647
  | [], n, m, h0, h1, h => by cases h; exact ⟨h0, h1⟩
  | c :: r, n, m, h0, h1, h => by
    unfold numL at h
    split at h
    · rename_i hd
      have hb := dvI_le _ hd
      have hc := cap_bd (n := 10 * n + dvI c) (by omega)
      exact numL_bd r _ m hc.1 hc.2 h
    · cases h
theorem num_bd (s : Str) : 0 ≤ (num s).1 ∧ (num s).1 ≤ 2147483647 := by
  unfold num
  cases h : numL s 0 with
  | none => exact ⟨Int.le_refl 0, by show (0 : Int) ≤ 2147483647; omega⟩
  | some m => exact numL_bd s 0 m (by decide) (by decide) h
theorem Fold_eq (a b : Str) (ha : a.length ≤ 1073741824) (hb : b.length ≤ 1073741824) : ascii_Fold a b = some (fold a b) := by
  simp only [ascii_Fold, Lower_eq a ha, Lower_eq b hb, some_bind, eqI, fold]
  cases a.length == b.length <;> rfl
end Go.Eng.Pure

/- Comparisons and bounds: what the functions compute, in plain words. -/
namespace Go.Eng
open Go
end Go.Eng
namespace Go.Eng.Pure
open Go Go.Eng
set_option linter.unusedVariables false
/-- A loop with a bound on its rounds, that looks for a bad element. -/
theorem while_keep {α : Type} (l : List α) (m : Nat) (bad : α → Bool) (body : Int → Option (Int ⊕ (Unit ⊕ Bool)))
    (h : ∀ (n : Nat) (hn : n < l.length), n < m → body (n : Int) = some (if bad l[n] = true then .inr (.inr false) else .inl ((n : Int) + 1)))
    (h' : ∀ n : Nat, (l.length ≤ n ∨ m ≤ n) → body (n : Int) = some (.inr (.inl ()))) :
    whileO body 0 = some (if (l.take m).any bad then .inr false else .inl ()) := by
  refine while_any body (l.take m) bad (.inr false) (.inl ()) (fun n hn => ?_) ?_
  · have h1 : n < l.length := by rw [List.length_take] at hn; omega
    have h2 : n < m := by rw [List.length_take] at hn; omega
    rw [h n h1 h2, List.getElem_take]
  · exact h' _ (by rw [List.length_take]; omega)
def badF (n : Nat) (f : GField) : Bool := decide (n < f.fName.length) || decide (n < f.fValue.length)
def keepF (l : List GField) : Bool := !((l.take 71).any (badF 300)) && decide (l.length ≤ 70)
theorem keep_Fields_eq (l : List GField) : keep_Fields l = some (keepF l) := by
  unfold keep_Fields keepF
  rw [while_keep l 71 (badF 300)]
  · have e : decide ((l.length : Int) ≤ 70) = decide (l.length ≤ 70) := le_nat l.length 70
    rw [e]
    cases (l.take 71).any (badF 300) <;> simp
  · intro n hn hm
    have e1 : decide ((n : Int) < 71) = true := lt_true hm
    have e2 : wr ((n : Int) + 1) = (n : Int) + 1 := by rw [wrs (by omega)]; omega
    simp only [keep_Fields_L0, lt_true hn, e1, Bool.and_self, bif_true, xnth_get hn, some_bind, e2]
    have e3 : decide (300 < ((l[n].fName.length : Nat) : Int)) = decide (300 < l[n].fName.length) := lt_nat 300 _
    have e4 : decide (300 < ((l[n].fValue.length : Nat) : Int)) = decide (300 < l[n].fValue.length) := lt_nat 300 _
    rw [e3, e4]
    unfold badF
    cases decide (300 < l[n].fName.length) <;> cases decide (300 < l[n].fValue.length) <;> rfl
  · intro n hn
    have : (decide ((n : Int) < (l.length : Int)) && decide ((n : Int) < 71)) = false := by
      rcases hn with hn | hn
      · rw [lt_false hn]; rfl
      · rw [show decide ((n : Int) < 71) = false from lt_false hn, Bool.and_false]
    simp only [keep_Fields_L0, this, bif_false]
theorem keepF_sm {l : List GField} (h : keepF l = true) : l.length ≤ 70 ∧ ∀ f ∈ l, f.fName.length ≤ 300 ∧ f.fValue.length ≤ 300 := by
  unfold keepF at h
  simp only [Bool.and_eq_true, Bool.not_eq_true', decide_eq_true_eq] at h
  refine ⟨h.2, fun f hf => ?_⟩
  rw [List.take_of_length_le (by omega)] at h
  have := List.any_eq_false.1 h.1 f hf
  simp only [badF, Bool.or_eq_true, decide_eq_true_eq] at this
  omega
def keepS (l : List Str) : Bool := !((l.take 21).any fun s => decide (100 < s.length)) && decide (l.length ≤ 20)
theorem keep_Strings_eq (l : List Str) : keep_Strings l = some (keepS l) := by
  unfold keep_Strings keepS
  rw [while_keep l 21 (fun s => decide (100 < s.length))]
  · have e : decide ((l.length : Int) ≤ 20) = decide (l.length ≤ 20) := le_nat l.length 20
    rw [e]
    cases (l.take 21).any (fun s => decide (100 < s.length)) <;> simp
  · intro n hn hm
    have e1 : decide ((n : Int) < 21) = true := lt_true hm
    have e2 : wr ((n : Int) + 1) = (n : Int) + 1 := by rw [wrs (by omega)]; omega
    simp only [keep_Strings_L0, lt_true hn, e1, Bool.and_self, bif_true, xnth_get hn, some_bind, e2]
    have e3 : decide (100 < ((l[n].length : Nat) : Int)) = decide (100 < l[n].length) := lt_nat 100 _
    rw [e3]
    cases decide (100 < l[n].length) <;> rfl
  · intro n hn
    have : (decide ((n : Int) < (l.length : Int)) && decide ((n : Int) < 21)) = false := by
      rcases hn with hn | hn
      · rw [lt_false hn]; rfl
      · rw [show decide ((n : Int) < 21) = false from lt_false hn, Bool.and_false]
    simp only [keep_Strings_L0, this, bif_false]
theorem keepS_sm {l : List Str} (h : keepS l = true) : l.length ≤ 20 ∧ ∀ s ∈ l, s.length ≤ 100 := by
  unfold keepS at h
  simp only [Bool.and_eq_true, Bool.not_eq_true', decide_eq_true_eq] at h
  refine ⟨h.2, fun f hf => ?_⟩
  rw [List.take_of_length_le (by omega)] at h
  have := List.any_eq_false.1 h.1 f hf
  simp only [decide_eq_true_eq] at this
  omega
end Go.Eng.Pure

/- Layers 3 and 22: fields that are there, cache directives: what the functions compute, in plain words. -/
namespace Go.Eng.Pure
open Go Go.Eng
set_option linter.unusedVariables false
def firstF (l : List GField) (name : Str) : Str × Bool := match getF l name with | v :: _ => (v, true) | [] => ([], false)
theorem First_eq (l : List GField) (name : Str) (hl : l.length ≤ 1073741824) (hf : ∀ f ∈ l, smF f) (hn : name.length ≤ 1073741824) : fieldline_First l name = some (firstF l name) := by
  unfold fieldline_First firstF
  rw [Get_eq l name hl hf hn, some_bind]
  cases getF l name with
  | nil => rfl
  | cons v r =>
    have : ((((v :: r).length : Nat) : Int) == 0) = false := by
      rw [Bool.eq_false_iff]; simp only [ne_eq, beq_iff_eq, List.length_cons]; omega
    rw [this]; rfl
theorem firstF_sm (l : List GField) (name : Str) (B : Nat) (hf : ∀ f ∈ l, f.fValue.length ≤ B) : (firstF l name).1.length ≤ B := by
  have h := getF_sm l name B hf
  unfold firstF
  cases hg : getF l name with
  | nil => exact Nat.zero_le _
  | cons v r => rw [hg] at h; exact h v List.mem_cons_self
/-! a name in front -/
def hd (m : Str) : Str := m.takeWhile tokB
end Go.Eng.Pure

/- Layer 19: the values that a Vary list picks: what the functions compute, in plain words; its first laws. -/
namespace Go.Eng.Pure
open Go Go.Eng
set_option linter.unusedVariables false
/-- fields that are small together -/
def smL (l : List GField) : Prop := l.length ≤ 70 ∧ ∀ f ∈ l, f.fName.length ≤ 300 ∧ f.fValue.length ≤ 300
theorem smL_F {l : List GField} (h : smL l) : l.length ≤ 1073741824 ∧ ∀ f ∈ l, smF f := ⟨by have := h.1; omega, fun f hf => by have := h.2 f hf; exact ⟨by omega, by omega⟩⟩
def without (l : List GField) (n : Str) : List GField := l.filter fun f => !fold f.fName n
theorem Remove01_eq (l : List GField) (n : Str) (hl : l.length ≤ 1073741824) (hf : ∀ f ∈ l, smF f) (hn : n.length ≤ 1073741824) : ref01_Remove l n = some (without l n) := by
  have := while_count (fun k => (without (l.take k) n, (k : Int))) l.length (without l n) (ref01_Remove_L0 l n) ?_ ?_
  · unfold ref01_Remove
    have e : (([] : List GField), (0 : Int)) = (without (l.take 0) n, ((0 : Nat) : Int)) := by simp [without]
    rw [e, this]; rfl
  · intro k hk
    have hln : (without (l.take k) n).length ≤ k := Nat.le_trans (List.length_filter_le _ _) (by simp; omega)
    simp only [ref01_Remove_L0, lt_true hk, bif_true, xnth_get hk, some_bind, RFold_eq _ _ (hf _ (List.getElem_mem hk)).1 hn, wrs (show k ≤ 4 * 1073741824 by omega)]
    rw [xapp_sm (by omega) (one_sm _)]
    have e : without (l.take (k + 1)) n = if fold l[k].fName n then without (l.take k) n else without (l.take k) n ++ [l[k]] := by
      unfold without
      rw [take_succ_get hk, List.filter_append]
      cases hp : fold l[k].fName n <;> simp [hp]
    rw [e]
    cases fold l[k].fName n <;> rfl
  · simp only [ref01_Remove_L0, lt_false (Nat.le_refl l.length), bif_false, List.take_length]
theorem without_sm {l : List GField} (h : smL l) (n : Str) : smL (without l n) :=
  ⟨Nat.le_trans (List.length_filter_le _ _) h.1, fun f hf => h.2 f ((List.mem_filter.1 hf).1)⟩
end Go.Eng.Pure

/- Layer 19: the names that Vary gives: sorted, each once; the other two laws. -/
namespace Go.Eng.Pure
open Go Go.Eng
set_option linter.unusedVariables false
theorem slt_trans {a b c : Str} (h : a < b) (h' : b < c) : a < c := List.lt_trans h h'
theorem slt_irrefl (a : Str) : ¬ a < a := List.lt_irrefl a
/-- ascending, each once -/
abbrev Asc (l : List Str) : Prop := l.Pairwise (· < ·)
theorem Asc.ext : ∀ {a b : List Str}, Asc a → Asc b → (∀ x, x ∈ a ↔ x ∈ b) → a = b
  | [], [], _, _, _ => rfl
  | [], y :: b, _, _, h => absurd ((h y).2 List.mem_cons_self) (by simp)
  | x :: a, [], _, _, h => absurd ((h x).1 List.mem_cons_self) (by simp)
  | x :: a, y :: b, ha, hb, h => by
    obtain ⟨ha1, ha2⟩ := List.pairwise_cons.1 ha
    obtain ⟨hb1, hb2⟩ := List.pairwise_cons.1 hb
    have hxy : x = y := by
      rcases List.mem_cons.1 ((h x).1 List.mem_cons_self) with h1 | h1
      · exact h1
      · rcases List.mem_cons.1 ((h y).2 List.mem_cons_self) with h2 | h2
        · exact h2.symm
        · exact absurd (slt_trans (hb1 x h1) (ha1 y h2)) (slt_irrefl y)
    subst hxy
    rw [Asc.ext ha2 hb2 fun z => ?_]
    constructor
    · intro hz
      rcases List.mem_cons.1 ((h z).1 (List.mem_cons_of_mem _ hz)) with h1 | h1
      · subst h1; exact absurd (ha1 z hz) (slt_irrefl z)
      · exact h1
    · intro hz
      rcases List.mem_cons.1 ((h z).2 (List.mem_cons_of_mem _ hz)) with h1 | h1
      · subst h1; exact absurd (hb1 z hz) (slt_irrefl z)
      · exact h1
end Go.Eng.Pure

/- The laws of layer 7 on joining and on several lines, in plain words. -/
namespace Go.Eng.Pure
open Go Go.Eng
set_option linter.unusedVariables false
/-! several lines -/
/-- The pieces that are cut off, the state and the piece that is not ended. -/
def fin (a : UInt8) : Nat → Str → Str → List Str × Nat × Str
  | st, cur, [] => ([], st, cur)
  | st, cur, c :: r => if st = 0 ∧ c = a then (cur :: (fin a 0 [] r).1, (fin a 0 [] r).2) else fin a (step st c) (cur ++ [c]) r
end Go.Eng.Pure

/- Layer 1: decimal numbers, and what reads them. -/
namespace Go.Eng.Pure
open Go Go.Eng
set_option linter.unusedVariables false
def dec (u : Nat) : Str := Lib.decDigits u
theorem dec_small {u : Nat} (h : u < 10) : dec u = [UInt8.ofNat (48 + u)] := by unfold dec; rw [Lib.decDigits, dif_pos h]
theorem dec_big {u : Nat} (h : ¬ u < 10) : dec u = dec (u / 10) ++ [UInt8.ofNat (48 + u % 10)] := by unfold dec; conv => lhs; rw [Lib.decDigits, dif_neg h]
theorem toU8_dig (k : Nat) (h : k < 10) : toU8 (wr (48 + (k : Int))) = UInt8.ofNat (48 + k) := by
  rw [wr_nat (by omega) (by omega)]
  unfold toU8
  congr 1; omega
theorem tmod10 (u : Nat) (s : Bool) : ((if s then -(u : Int) else (u : Int)).tmod 10) = (if s then -((u % 10 : Nat) : Int) else ((u % 10 : Nat) : Int)) ∧ ((if s then -(u : Int) else (u : Int)).tdiv 10) = (if s then -((u / 10 : Nat) : Int) else ((u / 10 : Nat) : Int)) := by
  have h1 : ((u : Int)).tmod 10 = ((u % 10 : Nat) : Int) := by rw [Int.tmod_eq_emod_of_nonneg (by omega)]; rfl
  have h2 : ((u : Int)).tdiv 10 = ((u / 10 : Nat) : Int) := by rw [Int.tdiv_eq_ediv_of_nonneg (by omega)]; rfl
  cases s
  · exact ⟨h1, h2⟩
  · simp only [if_true, Int.neg_tmod, Int.neg_tdiv, h1, h2]; exact ⟨trivial, trivial⟩
theorem Dec_loop (s : Bool) : ∀ (m u k : Nat) (b : Str), u < 10 ^ m → k + m ≤ 40 → m ≤ 19 → b.length ≤ k → (u ≠ 0 ∨ k = 0) → whileO ref01_Decimal_L0 ((if s then -(u : Int) else (u : Int)), b, (k : Int)) = some (dec u ++ b) := by
  intro m
  induction m with
  | zero =>
    intro u k b hu hk hm hb h0
    have hu0 : u = 0 := by simpa using hu
    subst hu0
    have hk0 : k = 0 := by omega
    subst hk0
    have hb0 : b = [] := List.eq_nil_of_length_eq_zero (by omega)
    subst hb0
    have e : (if s then -((0 : Nat) : Int) else ((0 : Nat) : Int)) = 0 := by cases s <;> rfl
    rw [e]
    have hb1 : ref01_Decimal_L0 ((0 : Int), ([] : Str), ((0 : Nat) : Int)) = some (.inl (0, [48], 1)) := by decide
    have hb2 : ref01_Decimal_L0 ((0 : Int), ([48] : Str), (1 : Int)) = some (.inr [48]) := rfl
    rw [whileO_next hb1, whileO_done hb2, dec_small (by decide)]; rfl
  | succ m ih =>
    intro u k b hu hk hm hb h0
    obtain ⟨t1, t2⟩ := tmod10 u s
    generalize hn : (if s then -(u : Int) else (u : Int)) = n at t1 t2
    have hc : ((n != 0) || ((k : Int) == 0)) = true := by
      rw [Bool.or_eq_true]
      rcases h0 with h0 | h0
      · left; rw [bne_iff_ne]; intro hh; rw [hh] at hn; cases s <;> simp at hn <;> omega
      · right; rw [h0]; rfl
    have hr : xrem n 10 = some (if s then -((u % 10 : Nat) : Int) else ((u % 10 : Nat) : Int)) := by unfold xrem; rw [if_neg (by decide), t1]
    have hpow : u < 10 ^ (m + 1) := hu
    have hle : (10 : Nat) ^ (m + 1) ≤ 10 ^ 19 := Nat.pow_le_pow_right (by decide) hm
    have h19 : (10 : Nat) ^ 19 = 10000000000000000000 := by decide
    have hq : xquo n 10 = some (if s then -((u / 10 : Nat) : Int) else ((u / 10 : Nat) : Int)) := by
      unfold xquo
      rw [if_neg (by decide), t2, wr_eq]
      cases s <;> simp only [if_true, if_false, Bool.false_eq_true] <;> omega
    have hd : ((bif decide ((if s then -((u % 10 : Nat) : Int) else ((u % 10 : Nat) : Int)) < 0) then some (wr (-(if s then -((u % 10 : Nat) : Int) else ((u % 10 : Nat) : Int)))) else some (if s then -((u % 10 : Nat) : Int) else ((u % 10 : Nat) : Int)))) = some ((u % 10 : Nat) : Int) := by
      cases s with
      | false =>
        have : decide ((if false = true then -((u % 10 : Nat) : Int) else ((u % 10 : Nat) : Int)) < 0) = false := decide_eq_false (by simp only [Bool.false_eq_true, if_false]; omega)
        rw [this]; rfl
      | true =>
        simp only [if_true, Int.neg_neg]
        by_cases hz : u % 10 = 0
        · rw [hz]; rfl
        · have : decide (-((u % 10 : Nat) : Int) < 0) = true := decide_eq_true (by omega)
          rw [this, bif_true, wr_nat (by omega) (by omega)]
    have hb1 : ref01_Decimal_L0 (n, b, (k : Int)) = some (.inl ((if s then -((u / 10 : Nat) : Int) else ((u / 10 : Nat) : Int)), UInt8.ofNat (48 + u % 10) :: b, ((k + 1 : Nat) : Int))) := by
      rw [ref01_Decimal_L0, hc, bif_true, hr, some_bind, hd, some_bind, toU8_dig _ (Nat.mod_lt _ (by decide)), xapp_sm (one_sm _) (by omega), some_bind, hq, some_bind, wrs (by omega)]; rfl
    rw [whileO_next hb1]
    by_cases hlt : u < 10
    · have h10 : u / 10 = 0 := by omega
      have hmod : u % 10 = u := by omega
      rw [h10, hmod, dec_small hlt]
      have hb2 : ref01_Decimal_L0 ((if s then -((0 : Nat) : Int) else ((0 : Nat) : Int)), UInt8.ofNat (48 + u) :: b, ((k + 1 : Nat) : Int)) = some (.inr (UInt8.ofNat (48 + u) :: b)) := by
        have e : (if s then -((0 : Nat) : Int) else ((0 : Nat) : Int)) = 0 := by cases s <;> rfl
        have e2 : ((((0 : Int) != 0) || (((k + 1 : Nat) : Int) == 0))) = false := by
          have : (((k + 1 : Nat) : Int) == 0) = false := by rw [Bool.eq_false_iff]; simp only [ne_eq, beq_iff_eq]; omega
          rw [this]; rfl
        rw [e, ref01_Decimal_L0, e2, bif_false]
      rw [whileO_done hb2]; rfl
    · rw [ih (u / 10) (k + 1) _ (by rw [Nat.pow_succ] at hpow; omega) (by omega) (by omega) (by simp; omega) (by omega), dec_big hlt]
      simp
theorem Decimal_eq (n : Int) (h1 : -9223372036854775808 ≤ n) (h2 : n ≤ 9223372036854775807) : ref01_Decimal n = some (Lib.itoa n) := by
  unfold ref01_Decimal Lib.itoa
  by_cases h : n < 0
  · obtain ⟨u, rfl⟩ : ∃ u : Nat, n = -(u : Int) := ⟨n.natAbs, by omega⟩
    have hl := Dec_loop true 19 u 0 [] (by omega) (by omega) (by omega) (by simp) (by omega)
    have hl : whileO ref01_Decimal_L0 (-(u : Int), [], 0) = some (dec u ++ []) := hl
    have hna : (-(u : Int)).natAbs = u := by omega
    rw [hl, some_bind, decide_eq_true h, bif_true, if_pos h, hna, List.append_nil]
    have hlen : (dec u).length ≤ 19 := by
      unfold dec
      rw [Lib.decDigits_eq]
      simp only [List.length_map, List.length_range]
      by_cases h0 : Lib.nDigits u ≤ 19
      · exact h0
      · exfalso
        have hp : ∀ k v : Nat, 1 ≤ k → k < Lib.nDigits v → 10 ^ k ≤ v := by
          intro k
          induction k with
          | zero => intro v h; omega
          | succ k ih =>
            intro v _ hk
            by_cases hv : v < 10
            · rw [Lib.nDigits_small hv] at hk; omega
            · rw [Lib.nDigits_big hv] at hk
              by_cases hk0 : k = 0
              · subst hk0; simp; omega
              · have := ih (v / 10) (by omega) (by omega)
                rw [Nat.pow_succ]; omega
        have := hp 19 u (by omega) (by omega)
        omega
    rw [xcat_sm (by decide) (by omega)]; rfl
  · obtain ⟨u, rfl⟩ : ∃ u : Nat, n = (u : Int) := ⟨n.toNat, by omega⟩
    have hl := Dec_loop false 19 u 0 [] (by omega) (by omega) (by omega) (by simp) (by omega)
    have hl : whileO ref01_Decimal_L0 ((u : Int), [], 0) = some (dec u ++ []) := hl
    rw [hl, some_bind, decide_eq_false h, bif_false, if_neg h, List.append_nil]; rfl
theorem dig_isD (k : Nat) (h : k < 10) : isD (UInt8.ofNat (48 + k)) = true ∧ dvI (UInt8.ofNat (48 + k)) = (k : Int) := by
  have hk : k = 0 ∨ k = 1 ∨ k = 2 ∨ k = 3 ∨ k = 4 ∨ k = 5 ∨ k = 6 ∨ k = 7 ∨ k = 8 ∨ k = 9 := by omega
  rcases hk with rfl | rfl | rfl | rfl | rfl | rfl | rfl | rfl | rfl | rfl <;> decide
theorem dec_all (u : Nat) : (dec u).all isD = true ∧ dec u ≠ [] := by
  induction u using Nat.strongRecOn with
  | _ u ih =>
    by_cases h : u < 10
    · rw [dec_small h, List.all_cons, (dig_isD u h).1]; exact ⟨rfl, by simp⟩
    · rw [dec_big h, List.all_append, (ih (u / 10) (by omega)).1]
      rw [List.all_cons, (dig_isD (u % 10) (Nat.mod_lt _ (by decide))).1]
      exact ⟨rfl, by simp⟩
theorem numL_append : ∀ (x y : Str) (n : Int), numL (x ++ y) n = (numL x n).bind (numL y)
  | [], y, n => rfl
  | c :: r, y, n => by
    show numL (c :: (r ++ y)) n = _
    unfold numL
    cases isD c with
    | true => exact numL_append r y _
    | false => cases y <;> rfl
theorem numL_dec (u : Nat) : numL (dec u) 0 = some (cap u) := by
  induction u using Nat.strongRecOn with
  | _ u ih =>
    by_cases h : u < 10
    · obtain ⟨h1, h2⟩ := dig_isD u h
      rw [dec_small h]
      show (if isD (UInt8.ofNat (48 + u)) = true then some (cap (10 * 0 + dvI (UInt8.ofNat (48 + u)))) else none) = _
      rw [if_pos h1, h2]
      congr 2; omega
    · obtain ⟨h1, h2⟩ := dig_isD (u % 10) (Nat.mod_lt _ (by decide))
      rw [dec_big h, numL_append, ih (u / 10) (by omega), Option.bind_some]
      show (if isD (UInt8.ofNat (48 + u % 10)) = true then some (cap (10 * cap ((u / 10 : Nat) : Int) + dvI (UInt8.ofNat (48 + u % 10)))) else none) = _
      rw [if_pos h1, h2]
      congr 1
      unfold cap
      split <;> split <;> split <;> omega
theorem numL_zeros (z : Nat) : numL (List.replicate z 48) 0 = some 0 := by
  induction z with
  | zero => rfl
  | succ z ih => rw [List.replicate_succ]; exact ih
/-- A number with zeros ahead. -/
theorem num_zeros (z u : Nat) : num (List.replicate z 48 ++ dec u) = (cap u, true) := by
  unfold num
  rw [numL_append, numL_zeros, Option.bind_some, numL_dec]
  have : (List.replicate z 48 ++ dec u != []) = true := by
    rw [bne_iff_ne]; intro h; exact (dec_all u).2 (List.append_eq_nil_iff.1 h).2
  rw [this]
end Go.Eng.Pure
