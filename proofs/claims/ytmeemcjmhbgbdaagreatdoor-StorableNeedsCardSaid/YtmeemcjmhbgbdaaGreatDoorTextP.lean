/- Layers 1, 3 and 7: letters, blanks, fields, members: what the functions compute, in plain words. -/
import Derived.Test.YtmeemcjmhbgbdaaGreatDoorLibB
import Derived.Test.YtmeemcjmhbgbdaaGreatDoorPure
namespace Go.Eng
open Go
theorem while_count {S ρ : Type} (st : Nat → S) (N : Nat) (r : ρ) (body : S → Option (S ⊕ ρ)) (h : ∀ n, n < N → body (st n) = some (.inl (st (n + 1)))) (h' : body (st N) = some (.inr r)) : whileO body (st 0) = some r := by
  have key : ∀ k n, n + k = N → whileO body (st n) = some r := by
    intro k
    induction k with
    | zero => intro n hn; obtain rfl : n = N := by omega
              exact whileO_done h'
    | succ k ih => intro n hn; rw [whileO_next (h n (by omega)), ih (n + 1) (by omega)]
  exact key N 0 (by omega)
theorem wrs {n : Nat} (h : n ≤ 4 * 1073741824) : wr ((n : Int) + 1) = ((n + 1 : Nat) : Int) := wr_succ (by simp only [big] at *; omega)
theorem wrn {n : Nat} (h : n ≤ 4 * 1073741824) : wr (n : Int) = (n : Int) := wr_ofNat (by simp only [big] at *; omega)
theorem xapp_sm {α : Type} {l k : List α} (h : l.length ≤ 64 * 1073741824) (h' : k.length ≤ 64 * 1073741824) : xapp l k = some (l ++ k) := xapp_some (by simp only [big] at *; omega)
theorem take_succ_get {α : Type} {l : List α} {n : Nat} (h : n < l.length) : l.take (n + 1) = l.take n ++ [l[n]] := by
  rw [List.take_succ_eq_append_getElem h]
theorem eqI (a b : Nat) : (((a : Int) == (b : Int)) : Bool) = (a == b) := by
  rw [Bool.eq_iff_iff]; simp only [beq_iff_eq]; omega
theorem neI (a b : Nat) : (((a : Int) != (b : Int)) : Bool) = (a != b) := by
  rw [Bool.eq_iff_iff]; simp only [bne_iff_ne, ne_eq]; omega
theorem one_sm {α : Type} (x : α) : [x].length ≤ 64 * 1073741824 := by simp only [List.length_cons, List.length_nil]; omega
end Go.Eng
namespace Go.Eng.Pure
open Go Go.Eng
/-! letters -/
def lowB (c : UInt8) : UInt8 := if decide (65 ≤ c) && decide (c ≤ 90) then c + 32 else c
def lower (s : Str) : Str := s.map lowB
theorem lower_len (s : Str) : (lower s).length = s.length := by simp [lower]
theorem add97 (c : UInt8) : (c + 97) - 65 = c + 32 := by
  have : (97 : UInt8) = 32 + 65 := rfl
  rw [this, ← UInt8.add_assoc, UInt8.add_sub_cancel]
theorem low_get (s : Str) (n : Nat) (h : n < s.length) : xnth ((s.take n).map lowB ++ s.drop n) (n : Int) = some s[n] := by
  rw [xnth_nat, List.getElem?_append_right (by simp; omega)]
  simp [Nat.min_eq_left (Nat.le_of_lt h)]
theorem low_set (s : Str) (n : Nat) (h : n < s.length) (c : UInt8) : ((s.take n).map lowB ++ s.drop n).set n c = (s.take n).map lowB ++ c :: s.drop (n + 1) := by
  have e : ((s.take n).map lowB).length = n := by rw [List.length_map, List.length_take]; omega
  rw [List.set_append_right _ _ (by omega), List.drop_eq_getElem_cons h, e, Nat.sub_self, List.set_cons_zero]
theorem low_next (s : Str) (n : Nat) (h : n < s.length) : (s.take n).map lowB ++ lowB s[n] :: s.drop (n + 1) = (s.take (n + 1)).map lowB ++ s.drop (n + 1) := by
  rw [take_succ_get h, List.map_append, List.append_assoc]; rfl
theorem Lower_eq (s : Str) (hs : s.length ≤ 1073741824) : ascii_Lower s = some (lower s) := by
  have := while_count (fun n => ((n : Int), (s.take n).map lowB ++ s.drop n)) s.length (lower s) (ascii_Lower_L0 s) ?_ ?_
  · unfold ascii_Lower
    have e : ((0 : Int), s) = (((0 : Nat) : Int), (s.take 0).map lowB ++ s.drop 0) := by simp
    rw [e, this]; rfl
  · intro n hn
    simp only [ascii_Lower_L0, lt_true hn, bif_true, low_get s n hn, some_bind, wrs (show n ≤ 4 * 1073741824 by omega), add97, Int.toNat_natCast]
    cases hc : (decide (65 ≤ s[n]) && decide (s[n] ≤ 90)) with
    | true =>
      rw [bif_true, low_set s n hn, ← low_next s n hn]
      simp [lowB, hc]
    | false =>
      rw [bif_false, ← low_next s n hn]
      simp [lowB, hc]
  · simp only [ascii_Lower_L0, lt_false (Nat.le_refl s.length), bif_false, List.take_length, List.drop_length, List.append_nil]
    rfl
theorem RLower_eq (s : Str) (hs : s.length ≤ 1073741824) : ref01_Lower s = some (lower s) := by
  have := while_count (fun n => ((n : Int), (s.take n).map lowB ++ s.drop n)) s.length (lower s) (ref01_Lower_L0 s) ?_ ?_
  · unfold ref01_Lower
    have e : ((0 : Int), s) = (((0 : Nat) : Int), (s.take 0).map lowB ++ s.drop 0) := by simp
    rw [e, this]; rfl
  · intro n hn
    simp only [ref01_Lower_L0, lt_true hn, bif_true, low_get s n hn, some_bind, wrs (show n ≤ 4 * 1073741824 by omega), Int.toNat_natCast]
    have e : (bif decide (65 ≤ s[n]) then some (decide (s[n] ≤ 90)) else some false) = some (decide (65 ≤ s[n]) && decide (s[n] ≤ 90)) := by cases decide (65 ≤ s[n]) <;> rfl
    rw [e, some_bind]
    cases hc : (decide (65 ≤ s[n]) && decide (s[n] ≤ 90)) with
    | true =>
      rw [bif_true, low_set s n hn, ← low_next s n hn]
      simp [lowB, hc]
    | false =>
      rw [bif_false, ← low_next s n hn]
      simp [lowB, hc]
  · simp only [ref01_Lower_L0, lt_false (Nat.le_refl s.length), bif_false, List.take_length, List.drop_length, List.append_nil]
    rfl
def fold (a b : Str) : Bool := a.length == b.length && lower a == lower b
theorem RFold_eq (a b : Str) (ha : a.length ≤ 1073741824) (hb : b.length ≤ 1073741824) : ref01_Fold a b = some (fold a b) := by
  simp only [ref01_Fold, RLower_eq a ha, RLower_eq b hb, some_bind, eqI, fold]
  cases a.length == b.length <;> rfl
/-! fields -/
def smF (f : GField) : Prop := f.fName.length ≤ 1073741824 ∧ f.fValue.length ≤ 1073741824
def getF (l : List GField) (name : Str) : List Str := (l.filter fun f => fold f.fName name).map (·.fValue)
theorem named_eq (name : Str) (hn : name.length ≤ 1073741824) (f : GField) (hf : smF f) : fieldline_named_1 f (lower name) = some (fold f.fName name) := by
  simp only [fieldline_named_1, Lower_eq _ hf.1, some_bind, eqI, lower_len, fold]
  cases f.fName.length == name.length <;> rfl
theorem filter_eq (l : List GField) (keep : GField → Option Bool) (p : GField → Bool) (hl : l.length ≤ 1073741824) (h : ∀ f ∈ l, keep f = some (p f)) : fieldline_filter l keep = some (l.filter p) := by
  have := while_count (fun n => ((l.take n).filter p, (n : Int))) l.length (l.filter p) (fieldline_filter_L0 l keep) ?_ ?_
  · unfold fieldline_filter
    have e : (([] : List GField), (0 : Int)) = ((l.take 0).filter p, ((0 : Nat) : Int)) := by simp
    rw [e, this]; rfl
  · intro n hn
    have hln : ((l.take n).filter p).length ≤ n := Nat.le_trans (List.length_filter_le _ _) (by simp; omega)
    simp only [fieldline_filter_L0, lt_true hn, bif_true, xnth_get hn, some_bind, h _ (List.getElem_mem hn), wrs (show n ≤ 4 * 1073741824 by omega), take_succ_get hn, List.filter_append]
    rw [xapp_sm (by omega) (one_sm _)]
    cases hp : p l[n] <;> simp [hp]
  · simp only [fieldline_filter_L0, lt_false (Nat.le_refl l.length), bif_false, List.take_length]
theorem Get_eq (l : List GField) (name : Str) (hl : l.length ≤ 1073741824) (hf : ∀ f ∈ l, smF f) (hn : name.length ≤ 1073741824) : fieldline_Get l name = some (getF l name) := by
  unfold fieldline_Get fieldline_named
  rw [Lower_eq _ hn]
  simp only [some_bind]
  rw [filter_eq l _ (fun f => fold f.fName name) hl (fun f h => named_eq name hn f (hf f h))]
  simp only [some_bind]
  have hk : (l.filter fun f => fold f.fName name).length ≤ 1073741824 := Nat.le_trans (List.length_filter_le _ _) hl
  generalize hg : (l.filter fun f => fold f.fName name) = k at hk ⊢
  have := while_count (fun n => ((k.take n).map (·.fValue), (n : Int))) k.length (k.map (·.fValue)) (fieldline_Get_L0 k) ?_ ?_
  · have e : (([] : List Str), (0 : Int)) = ((k.take 0).map (·.fValue), ((0 : Nat) : Int)) := by simp
    rw [e, this]
    simp [getF, hg]
  · intro n hn
    simp only [fieldline_Get_L0, lt_true hn, bif_true, xnth_get hn, some_bind, wrs (show n ≤ 4 * 1073741824 by omega), take_succ_get hn, List.map_append]
    rw [xapp_sm (by simp; omega) (one_sm _)]
    rfl
  · simp only [fieldline_Get_L0, lt_false (Nat.le_refl k.length), bif_false, List.take_length]
theorem RGet_eq (l : List GField) (name : Str) (hl : l.length ≤ 1073741824) (hf : ∀ f ∈ l, smF f) (hn : name.length ≤ 1073741824) : ref01_Get l name = some (getF l name) := by
  have := while_count (fun n => (getF (l.take n) name, (n : Int))) l.length (getF l name) (ref01_Get_L0 l name) ?_ ?_
  · unfold ref01_Get
    have e : (([] : List Str), (0 : Int)) = (getF (l.take 0) name, ((0 : Nat) : Int)) := by simp [getF]
    rw [e, this]; rfl
  · intro n hn'
    have hln : (getF (l.take n) name).length ≤ n := by simp only [getF, List.length_map]; exact Nat.le_trans (List.length_filter_le _ _) (by simp; omega)
    simp only [ref01_Get_L0, lt_true hn', bif_true, xnth_get hn', some_bind, RFold_eq _ _ (hf _ (List.getElem_mem hn')).1 hn, wrs (show n ≤ 4 * 1073741824 by omega)]
    rw [xapp_sm (by omega) (one_sm _)]
    have e : getF (l.take (n + 1)) name = if fold l[n].fName name then getF (l.take n) name ++ [l[n].fValue] else getF (l.take n) name := by
      unfold getF
      rw [take_succ_get hn', List.filter_append, List.map_append]
      cases hp : fold l[n].fName name <;> simp [hp]
    rw [e]
    cases fold l[n].fName name <;> rfl
  · simp only [ref01_Get_L0, lt_false (Nat.le_refl l.length), bif_false, List.take_length]
theorem getF_len (l : List GField) (name : Str) : (getF l name).length ≤ l.length := by simp only [getF, List.length_map]; exact List.length_filter_le _ _
theorem getF_sm (l : List GField) (name : Str) (B : Nat) (hf : ∀ f ∈ l, f.fValue.length ≤ B) : ∀ v ∈ getF l name, v.length ≤ B := by
  intro v hv
  simp only [getF, List.mem_map, List.mem_filter] at hv
  obtain ⟨f, ⟨hm, _⟩, rfl⟩ := hv
  exact hf f hm
end Go.Eng.Pure
