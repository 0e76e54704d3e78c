/- A part of the proof of laws of the seat. -/
import Derived.Test.YtogfdiigokidaaaGreatDoorVarsQ
namespace Go.Eng.Pure
open Go Go.Eng
set_option linter.unusedVariables false
def okV (d : Gvariants_domain) (prev : List Str) (v : Str) : Bool := (formD d v).2 && !(prev.any fun u => (formD d u).1 == (formD d v).1)
def axV (a : GAxis) : Bool := (decide (1 ≤ a.fValues.length) && decide (a.fValues.length ≤ 16)) && chk (okV (domF a.fName)) [] a.fValues
def smA (a : GAxis) : Prop := a.fName.length ≤ 1000000 ∧ ∀ v ∈ a.fValues, v.length ≤ 1000000
theorem mget_mset {β : Type} (m : List (Str × β)) (k k' : Str) (v z : β) : (mget (mset m k v) k' z).1 = if k' == k then v else (mget m k' z).1 := by
  unfold mget
  rw [lookup_mset]
  cases k' == k <;> rfl
theorem valid_loop (a : GAxis) (h : smA a) (hl : a.fValues.length ≤ 16) : ∀ (k n : Nat) (m : List (Str × Bool)), n + k = a.fValues.length → (∀ q, (mget m q false).1 = (a.fValues.take n).any fun u => (formD (domF a.fName) u).1 == q) →
    whileO (variants_valid_L0 a (domF a.fName)) ((n : Int), m) = some (if chk (okV (domF a.fName)) (a.fValues.take n) (a.fValues.drop n) then .inl () else .inr false) := by
  intro k
  induction k with
  | zero =>
    intro n m hn hI
    have : n = a.fValues.length := by omega
    subst this
    have hb : variants_valid_L0 a (domF a.fName) ((a.fValues.length : Int), m) = some (.inr (.inl ())) := by
      unfold variants_valid_L0
      simp only []
      rw [lt_false (Nat.le_refl _), bif_false]
    rw [whileO_done hb, List.drop_length]; rfl
  | succ k ih =>
    intro n m hn hI
    have hlt : n < a.fValues.length := by omega
    have hm := h.2 _ (List.getElem_mem hlt)
    conv => rhs; rw [List.drop_eq_getElem_cons hlt]
    unfold chk
    generalize hv : a.fValues[n] = v at *
    have hb : variants_valid_L0 a (domF a.fName) ((n : Int), m) = some (if okV (domF a.fName) (a.fValues.take n) v then .inl (((n + 1 : Nat) : Int), mset m (formD (domF a.fName) v).1 true) else .inr (.inr false)) := by
      unfold variants_valid_L0 okV
      simp only []
      rw [lt_true hlt, bif_true, xnth_get hlt, hv, some_bind, form_eq _ v hm, some_bind, some_bind, hI, wrs (by omega)]
      cases (formD (domF a.fName) v).2 <;> cases (a.fValues.take n).any (fun u => (formD (domF a.fName) u).1 == (formD (domF a.fName) v).1) <;> rfl
    cases ho : okV (domF a.fName) (a.fValues.take n) v with
    | false => rw [ho] at hb; rw [whileO_done hb]; rfl
    | true =>
      rw [ho] at hb
      rw [whileO_next hb, ih (n + 1) _ (by omega) ?_, Bool.true_and, take_succ_get hlt, hv]
      intro q
      rw [mget_mset, take_succ_get hlt, hv, List.any_append, hI q]
      simp only [List.any_cons, List.any_nil, Bool.or_false]
      have e : (q == (formD (domF a.fName) v).1) = ((formD (domF a.fName) v).1 == q) := by
        rw [Bool.eq_iff_iff, beq_iff_eq, beq_iff_eq]; exact ⟨Eq.symm, Eq.symm⟩
      rw [e]
      cases (formD (domF a.fName) v).1 == q <;> simp
theorem lt1 (n : Nat) : decide ((n : Int) < 1) = !decide (1 ≤ n) := by
  rw [Bool.eq_iff_iff]; simp only [decide_eq_true_eq, Bool.not_eq_true', decide_eq_false_iff_not]; omega
theorem gt16 (n : Nat) : decide ((16 : Int) < (n : Int)) = !decide (n ≤ 16) := by
  rw [Bool.eq_iff_iff]; simp only [decide_eq_true_eq, Bool.not_eq_true', decide_eq_false_iff_not]; omega
theorem gt4 (n : Nat) : decide ((4 : Int) < (n : Int)) = !decide (n ≤ 4) := by
  rw [Bool.eq_iff_iff]; simp only [decide_eq_true_eq, Bool.not_eq_true', decide_eq_false_iff_not]; omega
theorem Vvalid_eq (a : GAxis) (h : smA a) : variants_valid a = some (axV a) := by
  unfold variants_valid axV
  rw [lt1, gt16]
  by_cases h1 : 1 ≤ a.fValues.length
  · by_cases h2 : a.fValues.length ≤ 16
    · rw [decide_eq_true h1, decide_eq_true h2, domOf_eq _ (by have := h.1; omega)]
      simp only [Bool.not_true, Bool.or_self, bif_false, some_bind, Bool.and_self, Bool.true_and]
      have := valid_loop a h h2 a.fValues.length 0 [] (by omega) (fun q => rfl)
      rw [show ((0 : Nat) : Int) = 0 from rfl, List.take_zero, List.drop_zero] at this
      rw [this, some_bind]
      cases chk (okV (domF a.fName)) [] a.fValues <;> rfl
    · rw [decide_eq_false h2]; simp
  · rw [decide_eq_false h1]; simp
def axN (a : GAxis) : Bool := (tok a.fName && (lower a.fName == a.fName)) && axV a
theorem RvalidAxis_eq (a : GAxis) (h : smA a) : ref10_validAxis a = some (axN a) := by
  have hn := h.1
  unfold ref10_validAxis axN axV
  rw [RToken_eq _ (by omega), some_bind, lt1, gt16]
  have hlow : (bif !tok a.fName then some true else (ref01_Lower a.fName).bind fun r13 => some (r13 != a.fName)) = some (!(tok a.fName && (lower a.fName == a.fName))) := by
    rw [RLower_eq _ (by omega), some_bind]
    cases tok a.fName <;> rfl
  rw [hlow, some_bind]
  cases (tok a.fName && (lower a.fName == a.fName)) with
  | false => rfl
  | true =>
    by_cases h1 : 1 ≤ a.fValues.length
    · by_cases h2 : a.fValues.length ≤ 16
      · rw [decide_eq_true h1, decide_eq_true h2]
        simp only [Bool.not_true, Bool.or_self, bif_false, Bool.and_self, Bool.true_and]
        have := chk_loop a.fValues (okV (domF a.fName)) (ref10_validAxis_L1 a) ?_ ?_
        · rw [this, some_bind]
          cases chk (okV (domF a.fName)) [] a.fValues <;> rfl
        · intro n hlt
          have hm := h.2 _ (List.getElem_mem hlt)
          unfold ref10_validAxis_L1 okV
          rw [lt_true hlt, bif_true, xnth_get hlt, some_bind]
          generalize hv : a.fValues[n] = v at *
          rw [RValue_eqV _ _ (by omega) hm, some_bind]
          cases (formD (domF a.fName) v).2 with
          | false => rfl
          | true =>
            rw [Bool.not_true, bif_false]
            have hw : whileO (ref10_validAxis_L0 a (n : Int)) 0 = some (if (a.fValues.take n).any (fun u => (formD (domF a.fName) u).1 == (formD (domF a.fName) v).1) then .inr (.inr (.inr false)) else .inl ()) := by
              refine while_any (ρ := Unit ⊕ (Int ⊕ (Unit ⊕ Bool))) _ (a.fValues.take n) _ (.inr (.inr (.inr false))) (.inl ()) ?_ ?_
              · intro i hi
                have hi2 : i < n := by rw [List.length_take] at hi; omega
                have hi3 : i < a.fValues.length := by omega
                have hmi := h.2 _ (List.getElem_mem hi3)
                unfold ref10_validAxis_L0
                rw [lt_true hi2, bif_true, xnth_get hlt, hv, some_bind, xnth_get hi3, some_bind, RSame_eq _ _ _ (by omega) hm hmi, some_bind, List.getElem_take, wrs (by omega)]
                have e : ((formD (domF a.fName) v).1 == (formD (domF a.fName) a.fValues[i]).1) = ((formD (domF a.fName) a.fValues[i]).1 == (formD (domF a.fName) v).1) := by
                  rw [Bool.eq_iff_iff, beq_iff_eq, beq_iff_eq]; exact ⟨Eq.symm, Eq.symm⟩
                rw [e]
                cases (formD (domF a.fName) a.fValues[i]).1 == (formD (domF a.fName) v).1 <;> simp
              · unfold ref10_validAxis_L0
                have : (a.fValues.take n).length = n := by rw [List.length_take]; omega
                rw [this, lt_false (Nat.le_refl _), bif_false]
            rw [hw, some_bind, wrs (by omega)]
            cases (a.fValues.take n).any (fun u => (formD (domF a.fName) u).1 == (formD (domF a.fName) v).1) <;> rfl
        · unfold ref10_validAxis_L1
          rw [lt_false (Nat.le_refl _), bif_false]
      · rw [decide_eq_false h2]; simp
    · rw [decide_eq_false h1]; simp
def okA (prev : List GAxis) (a : GAxis) : Bool := axN a && !(prev.any fun b => a.fName == b.fName)
def valB (l : List GAxis) : Bool := (decide (1 ≤ l.length) && decide (l.length ≤ 4)) && chk okA [] l
theorem VValid_eq (l : List GAxis) (h : ∀ a ∈ l, smA a) : variants_Valid l = some (valB l) := by
  unfold variants_Valid valB
  rw [lt1, gt4]
  by_cases h1 : 1 ≤ l.length
  · by_cases h2 : l.length ≤ 4
    · rw [decide_eq_true h1, decide_eq_true h2]
      simp only [Bool.not_true, Bool.or_self, bif_false, Bool.and_self, Bool.true_and]
      have := chk_loop l okA (variants_Valid_L1 l) ?_ ?_
      · rw [this, some_bind]
        cases chk okA [] l <;> rfl
      · intro n hlt
        have hm := h _ (List.getElem_mem hlt)
        unfold variants_Valid_L1 okA axN
        rw [lt_true hlt, bif_true, xnth_get hlt, some_bind]
        generalize hv : l[n] = a at *
        have hn := hm.1
        rw [Token_eq _ (by omega), some_bind, Lower_eq _ (by omega), some_bind, Vvalid_eq a hm]
        have hw : whileO (variants_Valid_L0 a (l.take n)) 0 = some (if (l.take n).any (fun b => a.fName == b.fName) then .inr (.inr (.inr false)) else .inl ()) := by
          refine while_any (ρ := Unit ⊕ (Int ⊕ (Unit ⊕ Bool))) _ (l.take n) _ (.inr (.inr (.inr false))) (.inl ()) ?_ ?_
          · intro i hi
            have hi2 : i < n := by rw [List.length_take] at hi; omega
            unfold variants_Valid_L0
            rw [lt_true hi, bif_true, xnth_get hi, some_bind, wrs (by omega)]
            cases a.fName == (l.take n)[i].fName <;> simp
          · unfold variants_Valid_L0
            rw [lt_false (Nat.le_refl _), bif_false]
        rw [xsub_to (by omega), wrs (by omega)]
        simp only [some_bind]
        rw [hw]
        have e : (lower a.fName != a.fName) = !(lower a.fName == a.fName) := rfl
        rw [e]
        cases tok a.fName <;> cases lower a.fName == a.fName <;> cases axV a <;> cases (l.take n).any (fun b => a.fName == b.fName) <;> rfl
      · unfold variants_Valid_L1
        rw [lt_false (Nat.le_refl _), bif_false]
    · rw [decide_eq_false h2]; simp
  · rw [decide_eq_false h1]; simp
theorem RValid_eq (l : List GAxis) (h : ∀ a ∈ l, smA a) : ref10_Valid l = some (valB l) := by
  unfold ref10_Valid valB
  rw [lt1, gt4]
  by_cases h1 : 1 ≤ l.length
  · by_cases h2 : l.length ≤ 4
    · rw [decide_eq_true h1, decide_eq_true h2]
      simp only [Bool.not_true, Bool.or_self, bif_false, Bool.and_self, Bool.true_and]
      have := chk_loop l okA (ref10_Valid_L1 l) ?_ ?_
      · rw [this, some_bind]
        cases chk okA [] l <;> rfl
      · intro n hlt
        have hm := h _ (List.getElem_mem hlt)
        have hx := xnth_get hlt
        unfold ref10_Valid_L1 okA
        rw [lt_true hlt, bif_true, hx, some_bind]
        generalize hv : l[n] = a at *
        rw [RvalidAxis_eq a hm, some_bind]
        have hw : whileO (ref10_Valid_L0 l (n : Int)) 0 = some (if (l.take n).any (fun b => a.fName == b.fName) then .inr (.inr (.inr false)) else .inl ()) := by
          refine while_any (ρ := Unit ⊕ (Int ⊕ (Unit ⊕ Bool))) _ (l.take n) _ (.inr (.inr (.inr false))) (.inl ()) ?_ ?_
          · intro i hi
            have hi2 : i < n := by rw [List.length_take] at hi; omega
            have hi3 : i < l.length := by omega
            unfold ref10_Valid_L0
            rw [lt_true hi2, bif_true, hx, some_bind, xnth_get hi3, some_bind, wrs (by omega), List.getElem_take]
            cases a.fName == l[i].fName <;> simp
          · unfold ref10_Valid_L0
            have : (l.take n).length = n := by rw [List.length_take]; omega
            rw [this, lt_false (Nat.le_refl _), bif_false]
        rw [hw, wrs (by omega)]
        cases axN a <;> cases (l.take n).any (fun b => a.fName == b.fName) <;> rfl
      · unfold ref10_Valid_L1
        rw [lt_false (Nat.le_refl _), bif_false]
    · rw [decide_eq_false h2]; simp
  · rw [decide_eq_false h1]; simp
end Go.Eng.Pure
namespace Go.Eng.Pure
open Go Go.Eng
set_option linter.unusedVariables false
theorem IxF_eq (ms : List Str) (f : Str → Option Bool) (p : Str → Bool) (hl : ms.length ≤ 1073741824) (h : ∀ m ∈ ms, f m = some (p m)) : slices_IndexFunc_string_string ms f = some (match ms.findIdx? p with | some i => (i : Int) | none => -1) := by
  have key : ∀ (k n : Nat), n + k = ms.length → whileO (slices_IndexFunc_string_string_L0 ms f) (n : Int) = some (match (ms.drop n).findIdx? p with | some i => .inr ((n + i : Nat) : Int) | none => .inl ()) := by
    intro k
    induction k with
    | zero =>
      intro n hn
      obtain rfl : n = ms.length := by omega
      rw [whileO_done (r := .inl ())]
      · rw [List.drop_length]; rfl
      · simp only [slices_IndexFunc_string_string_L0, lt_false (Nat.le_refl ms.length), bif_false]
    | succ k ih =>
      intro n hn
      have hlt : n < ms.length := by omega
      have hb : slices_IndexFunc_string_string_L0 ms f (n : Int) = some (if p ms[n] then .inr (.inr (n : Int)) else .inl ((n + 1 : Nat) : Int)) := by
        simp only [slices_IndexFunc_string_string_L0, lt_true hlt, bif_true, xnth_get hlt, some_bind, h _ (List.getElem_mem hlt), wrs (show n ≤ 4 * 1073741824 by omega)]
        cases p ms[n] <;> rfl
      rw [List.drop_eq_getElem_cons hlt, List.findIdx?_cons]
      cases hp : p ms[n] with
      | true =>
        rw [hp, if_pos rfl] at hb
        rw [whileO_done hb]; rfl
      | false =>
        rw [hp, if_neg (by decide)] at hb
        rw [whileO_next hb, ih (n + 1) (by omega)]
        cases hd : (ms.drop (n + 1)).findIdx? p with
        | none => rfl
        | some i => simp; omega
  have := key ms.length 0 (by omega)
  rw [show ((0 : Nat) : Int) = 0 from rfl, List.drop_zero] at this
  unfold slices_IndexFunc_string_string
  rw [this, some_bind]
  cases ms.findIdx? p with
  | none => rfl
  | some i => simp
def samV (a : GAxis) (k v : Str) : Bool := (formD (domF a.fName) v).1 == (formD (domF a.fName) k).1
def resL : List GAxis → List Str → List Str → Option (List Str)
  | a :: al, k :: kl, acc => match a.fValues.find? (samV a k) with | some v => resL al kl (acc ++ [v]) | none => none
  | _, _, acc => some acc
def resS (axes : List GAxis) (key : List Str) : List Str × Bool :=
  if key.length = axes.length then match resL axes key [] with | some l => (l, true) | none => ([], false) else ([], false)
theorem find_ix {α : Type} (p : α → Bool) (l : List α) : match l.findIdx? p with | some i => ∃ h : i < l.length, l.find? p = some l[i] | none => l.find? p = none := by
  induction l with
  | nil => rfl
  | cons x l ih =>
    rw [List.findIdx?_cons, List.find?_cons]
    cases hp : p x with
    | true => exact ⟨by simp, rfl⟩
    | false =>
      simp only [Bool.false_eq_true, if_false]
      cases hi : l.findIdx? p with
      | none => rw [hi] at ih; exact ih
      | some i =>
        rw [hi] at ih
        obtain ⟨h, e⟩ := ih
        exact ⟨by simp; omega, by rw [e]; rfl⟩
theorem res_loop (axes : List GAxis) (key : List Str) (hlen : key.length = axes.length) (hl : axes.length ≤ 1000) (ha : ∀ a ∈ axes, smA a ∧ a.fValues.length ≤ 1000) (hk : ∀ v ∈ key, v.length ≤ 1000000) :
    ∀ (k n : Nat) (m : List Str), n + k = axes.length → m.length = axes.length →
      whileO (variantkey_resolve_L0 axes key) ((n : Int), m) = some (match resL (axes.drop n) (key.drop n) (m.take n) with | some l => .inl l | none => .inr ([], false)) := by
  intro k
  induction k with
  | zero =>
    intro n m hn hm
    have : n = axes.length := by omega
    subst this
    have hb : variantkey_resolve_L0 axes key ((axes.length : Int), m) = some (.inr (.inl m)) := by
      unfold variantkey_resolve_L0
      simp only []
      rw [lt_false (Nat.le_refl _), bif_false]
    rw [whileO_done hb, List.drop_length, ← hm, List.take_length]; rfl
  | succ k ih =>
    intro n m hn hm
    have hlt : n < axes.length := by omega
    have hlt2 : n < key.length := by omega
    have hlt3 : n < m.length := by omega
    obtain ⟨hs, hv⟩ := ha _ (List.getElem_mem hlt)
    have hkn := hk _ (List.getElem_mem hlt2)
    rw [List.drop_eq_getElem_cons hlt, List.drop_eq_getElem_cons hlt2]
    unfold resL
    have hx := xnth_get hlt
    have hxk := xnth_get hlt2
    generalize axes[n] = a at *
    generalize key[n] = q at *
    have hix : slices_IndexFunc_string_string a.fValues (fun x0 => variantkey_resolve_1 x0 a key (n : Int)) = some (match a.fValues.findIdx? (samV a q) with | some i => (i : Int) | none => -1) := by
      refine IxF_eq _ _ _ (by omega) fun v hvm => ?_
      unfold variantkey_resolve_1
      rw [hxk, some_bind, VSame_eq _ _ _ (by have := hs.1; omega) (hs.2 v hvm) hkn, some_bind]
      rfl
    have hfi := find_ix (samV a q) a.fValues
    cases hfind : a.fValues.findIdx? (samV a q) with
    | none =>
      rw [hfind] at hfi hix
      have hb : variantkey_resolve_L0 axes key ((n : Int), m) = some (.inr (.inr ([], false))) := by
        unfold variantkey_resolve_L0
        simp only []
        rw [lt_true hlt, bif_true, hx, some_bind, hix, some_bind]
        rfl
      rw [whileO_done hb, hfi]
    | some i =>
      rw [hfind] at hfi hix
      obtain ⟨hi, he⟩ := hfi
      have hput : xput m (n : Int) a.fValues[i] = some (m.set n a.fValues[i]) := by unfold xput; rw [if_pos ⟨by omega, by omega⟩, Int.toNat_natCast]
      have hb : variantkey_resolve_L0 axes key ((n : Int), m) = some (.inl (((n + 1 : Nat) : Int), m.set n a.fValues[i])) := by
        unfold variantkey_resolve_L0
        simp only []
        rw [lt_true hlt, bif_true, hx, some_bind, hix, some_bind]
        show (bif decide ((i : Int) < 0) then _ else _) = _
        rw [show decide ((i : Int) < 0) = false from decide_eq_false (by omega), bif_false, xnth_get hi, some_bind, xnth_get hlt3, some_bind, hput, some_bind, wrs (by omega)]
      have e1 : (m.set n a.fValues[i]).take (n + 1) = m.take n ++ [a.fValues[i]] := by
        rw [take_succ_get (by rw [List.length_set]; exact hlt3), List.take_set_of_le (Nat.le_refl n), List.getElem_set_self]
      rw [whileO_next hb, ih (n + 1) _ (by omega) (by rw [List.length_set, hm]), e1, he]
theorem Resolve_eq (axes : List GAxis) (key : List Str) (hl : axes.length ≤ 1000) (ha : ∀ a ∈ axes, smA a ∧ a.fValues.length ≤ 1000) (hk : ∀ v ∈ key, v.length ≤ 1000000) : variantkey_resolve axes key = some (resS axes key) := by
  unfold variantkey_resolve resS
  rw [neI]
  by_cases hlen : key.length = axes.length
  · rw [show (key.length != axes.length) = false by simpa using hlen, bif_false, if_pos hlen]
    have hmk : xmake (key.length : Int) ([] : Str) = some (List.replicate key.length []) := by
      unfold xmake; rw [if_pos ⟨by omega, by omega⟩, Int.toNat_natCast]
    have := res_loop axes key hlen hl ha hk axes.length 0 (List.replicate key.length []) (by omega) (by rw [List.length_replicate, hlen])
    rw [show ((0 : Nat) : Int) = 0 from rfl, List.drop_zero, List.drop_zero, List.take_zero] at this
    rw [hmk, some_bind, this, some_bind]
    cases resL axes key [] <;> rfl
  · rw [show (key.length != axes.length) = true by simpa using hlen, bif_true, if_neg hlen]
end Go.Eng.Pure
namespace Go.Eng.Pure
open Go Go.Eng
set_option linter.unusedVariables false
theorem chk_pair {α : Type} (ok : List α → α → Bool) : ∀ (l prev : List α), chk ok prev l = true → ∀ j (hj : j < l.length), ok (prev ++ l.take j) l[j] = true
  | [], _, _, j, hj => absurd hj (by simp)
  | x :: l, prev, h, 0, hj => by
    unfold chk at h
    rw [Bool.and_eq_true] at h
    simpa using h.1
  | x :: l, prev, h, j + 1, hj => by
    unfold chk at h
    rw [Bool.and_eq_true] at h
    have := chk_pair ok l (prev ++ [x]) h.2 j (by simpa using hj)
    simpa using this
end Go.Eng.Pure
namespace Go.Eng.Pure
open Go Go.Eng
set_option linter.unusedVariables false
def sp (c : UInt8) : Bool := c == 32
def plB (c : UInt8) : Bool := !(([32, 9, 40, 41, 44, 34] : Str).contains c)
def qe : Str → Nat → Nat
  | [], i => i
  | c :: l, i => if c = 92 then (match l with | [] => i + 2 | _ :: l' => qe l' (i + 2)) else if c = 34 then i else qe l (i + 1)
theorem drop2 {s : Str} {i : Nat} (h : i < s.length) : (match s.drop (i + 1) with | [] => i + 2 | _ :: l' => qe l' (i + 2)) = qe (s.drop (i + 2)) (i + 2) := by
  by_cases h2 : i + 1 < s.length
  · rw [List.drop_eq_getElem_cons h2]
  · rw [List.drop_eq_nil_of_le (by omega), List.drop_eq_nil_of_le (by omega)]; rfl
theorem quo_loop (s : Str) (hs : s.length ≤ 1073741824) : ∀ (k i : Nat), s.length ≤ i + k → i ≤ s.length + 1 → whileO (group_quoted_L0 s) (i : Int) = some (if qe (s.drop i) i < s.length then .inr ((qe (s.drop i) i + 1 : Nat) : Int) else .inl ()) := by
  intro k
  induction k using Nat.strongRecOn with
  | ind k ih =>
    intro i hk hi
    by_cases hlt : i < s.length
    · have hc := xnth_get hlt
      rw [List.drop_eq_getElem_cons hlt]
      generalize s[i] = c at hc
      unfold qe
      by_cases h92 : c = 92
      · rw [if_pos h92, drop2 hlt]
        have hb : group_quoted_L0 s (i : Int) = some (.inl ((i + 2 : Nat) : Int)) := by
          unfold group_quoted_L0
          rw [lt_true hlt, bif_true, hc, some_bind, h92, wrs (by omega), wrs (by omega)]; rfl
        rw [whileO_next hb, ih (k - 2) (by omega) (i + 2) (by omega) (by omega)]
      · rw [if_neg h92]
        have e92 : (c == 92) = false := by simpa using h92
        by_cases h34 : c = 34
        · rw [if_pos h34, if_pos hlt]
          have hb : group_quoted_L0 s (i : Int) = some (.inr (.inr ((i + 1 : Nat) : Int))) := by
            unfold group_quoted_L0
            rw [lt_true hlt, bif_true, hc, some_bind, e92, bif_false, h34, wrs (by omega)]; rfl
          rw [whileO_done hb]
        · rw [if_neg h34]
          have e34 : (c == 34) = false := by simpa using h34
          have hb : group_quoted_L0 s (i : Int) = some (.inl ((i + 1 : Nat) : Int)) := by
            unfold group_quoted_L0
            rw [lt_true hlt, bif_true, hc, some_bind, e92, bif_false, e34, bif_false, wrs (by omega)]
          rw [whileO_next hb, ih (k - 1) (by omega) (i + 1) (by omega) (by omega)]
    · have hb : group_quoted_L0 s (i : Int) = some (.inr (.inl ())) := by
        unfold group_quoted_L0
        rw [lt_false (by omega), bif_false]
      rw [whileO_done hb, List.drop_eq_nil_of_le (by omega)]
      unfold qe
      rw [if_neg (by omega)]
theorem Quoted_eq (s : Str) (hs : s.length ≤ 1073741824) : group_quoted s = some (((if qe (s.drop 1) 1 < s.length then qe (s.drop 1) 1 + 1 else 0 : Nat)) : Int) := by
  unfold group_quoted
  have := quo_loop s hs s.length 1 (by omega) (by omega)
  rw [show ((1 : Nat) : Int) = 1 from rfl] at this
  rw [this, some_bind]
  by_cases h : qe (s.drop 1) 1 < s.length
  · rw [if_pos h, if_pos h]
  · rw [if_neg h, if_neg h]; rfl
theorem ixAny_take (cs : Str) : ∀ s : Str, (Lib.indexAny s cs = -1 ∧ s.takeWhile (fun c => !cs.contains c) = s) ∨ (Lib.indexAny s cs = ((s.takeWhile (fun c => !cs.contains c)).length : Int) ∧ (s.takeWhile (fun c => !cs.contains c)).length < s.length)
  | [] => .inl ⟨rfl, rfl⟩
  | c :: s => by
    rw [Lib.indexAny, List.takeWhile_cons]
    cases hc : cs.contains c with
    | true => exact .inr ⟨by simp, by simp⟩
    | false =>
      rcases ixAny_take cs s with ⟨h1, h2⟩ | ⟨h1, h2⟩
      · refine .inl ⟨by rw [h1]; rfl, by rw [Bool.not_false, if_pos rfl, h2]⟩
      · refine .inr ⟨?_, by rw [Bool.not_false, if_pos rfl, List.length_cons, List.length_cons]; omega⟩
        rw [h1]
        have : (((s.takeWhile (fun c => !cs.contains c)).length : Int) == -1) = false := beq_eq_false_iff_ne.2 (by omega)
        simp only [this, Bool.false_eq_true, if_false, Bool.not_false, if_true, List.length_cons]
        push_cast; rfl
theorem Bare_eq (s : Str) (hs : s.length ≤ 1073741824) : group_bare s = some (((s.takeWhile plB).length : Nat) : Int) := by
  unfold group_bare strings_IndexAny
  rw [if_pos ⟨by decide, by decide, by decide, hs⟩, some_bind]
  rcases ixAny_take [32, 9, 40, 41, 44, 34] s with ⟨h1, h2⟩ | ⟨h1, h2⟩
  · rw [h1]
    show some ((s.length : Nat) : Int) = _
    have : s.takeWhile plB = s := h2
    rw [this]
  · rw [h1, decide_eq_true (by omega), bif_true]; rfl
def unitN (s : Str) : Nat := if s.head? = some 34 then (if qe (s.drop 1) 1 < s.length then qe (s.drop 1) 1 + 1 else 0) else (s.takeWhile plB).length
def badR (s : Str) : Bool := match s with | [] => false | c :: _ => c != 32
def unitV (s : Str) : Option (Str × Str) :=
  if unitN s = 0 then none else if badR (s.drop (unitN s)) then none
  else if s.head? = some 34 then (if (unq (s.take (unitN s))).2 then some ((unq (s.take (unitN s))).1, s.drop (unitN s)) else none) else some (s.take (unitN s), s.drop (unitN s))
def grd : Nat → Str → List Str → List Str × Bool
  | 0, _, out => (out, true)
  | k + 1, s, out => if s.dropWhile sp = [] then (out, true) else match unitV (s.dropWhile sp) with | none => ([], false) | some (v, r) => grd k r (out ++ [v])
theorem unitN_le (s : Str) : unitN s ≤ s.length := by
  unfold unitN
  split
  · split <;> omega
  · exact (List.takeWhile_sublist _).length_le
theorem unitV_lt {s v r : Str} (h : unitV s = some (v, r)) : r.length < s.length := by
  unfold unitV at h
  have hle := unitN_le s
  split at h
  · cases h
  · rename_i h0
    split at h
    · cases h
    · split at h
      · split at h
        · injection h with h; obtain ⟨_, rfl⟩ := Prod.mk.inj h; rw [List.length_drop]; omega
        · cases h
      · injection h with h; obtain ⟨_, rfl⟩ := Prod.mk.inj h; rw [List.length_drop]; omega
theorem dropW_le (s : Str) : (s.dropWhile sp).length ≤ s.length := (List.dropWhile_sublist _).length_le
theorem TrimL_eq (s : Str) : strings_TrimLeft s [32] = some (s.dropWhile sp) := by
  unfold strings_TrimLeft
  cases s with
  | nil => rfl
  | cons c s =>
    have h1 : ((c :: s == []) || (([32] : Str) == [])) = false := rfl
    rw [h1, bif_false]
    show ((strings_trimLeftByte (c :: s) 32).bind fun r10 => some r10) = _
    unfold strings_trimLeftByte
    have := while_ltrim (strings_trimLeftByte_L0 32) sp (fun s c => by
      unfold strings_trimLeftByte_L0
      rw [pos_cons, bif_true, xnth_cons, some_bind, some_bind]
      have hx : xsub (c :: s) 1 ((c :: s).length : Int) = some s := by
        have := xsub_from (l := c :: s) (i := 1) (by simp)
        simpa using this
      rw [hx]
      unfold sp
      cases c == 32 <;> rfl) (by rfl) (c :: s)
    rw [this]; rfl
theorem head_cons (c : UInt8) (s : Str) : ((c :: s).head? = some 34) ↔ (c == 34) = true := by simp
theorem xsub0 (s : Str) (n : Nat) (h : n ≤ s.length) : xsub s 0 (n : Int) = some (s.take n) := xsub_to h
theorem Read_loop : ∀ (k : Nat) (s : Str) (out : List Str), s.length < k → k ≤ 1000000 → out.length + k ≤ 2000000 → whileO group_Read_L0 (s, out) = some (grd k s out) := by
  intro k
  induction k with
  | zero => intro s out h; exact absurd h (Nat.not_lt_zero _)
  | succ k ih =>
    intro s out h hk ho
    have hd := dropW_le s
    unfold grd
    have hT := TrimL_eq s
    by_cases hnil : s.dropWhile sp = []
    · rw [if_pos hnil]
      have hb : group_Read_L0 (s, out) = some (.inr (out, true)) := by
        unfold group_Read_L0
        simp only []
        rw [TrimL_eq, some_bind, hnil]; rfl
      rw [whileO_done hb]
    · rw [if_neg hnil]
      generalize s.dropWhile sp = t at *
      have hne : (t == []) = false := by simpa using hnil
      obtain ⟨c, t', rfl⟩ : ∃ c t', t = c :: t' := by cases t with
        | nil => exact absurd rfl hnil
        | cons c t' => exact ⟨c, t', rfl⟩
      have hN : ((bif c == 34 then (group_quoted (c :: t')).bind fun r43 => some r43 else some (((List.takeWhile plB (c :: t')).length : Nat) : Int))) = some ((unitN (c :: t') : Nat) : Int) := by
        unfold unitN
        by_cases h34 : (c == 34) = true
        · rw [h34, bif_true, Quoted_eq _ (by omega), some_bind, if_pos ((head_cons c t').2 h34)]
        · rw [Bool.not_eq_true] at h34
          rw [h34, bif_false, if_neg (by rw [head_cons, h34]; decide)]
      have hle := unitN_le (c :: t')
      have hB : (bif (((unitN (c :: t') : Nat) : Int) == 0) then some true else
          (bif decide (((unitN (c :: t') : Nat) : Int) < ((c :: t').length : Int)) then (xnth (c :: t') ((unitN (c :: t') : Nat) : Int)).bind fun c52 => some (c52 != 32) else some false).bind fun b53 => some b53) =
          some (decide (unitN (c :: t') = 0) || badR ((c :: t').drop (unitN (c :: t')))) := by
        generalize unitN (c :: t') = n at *
        by_cases h0 : n = 0
        · subst h0; rfl
        · rw [show (((n : Int) == 0) : Bool) = false from beq_eq_false_iff_ne.2 (by omega), bif_false, decide_eq_false h0, Bool.false_or]
          by_cases hlt : n < (c :: t').length
          · rw [lt_true hlt, bif_true, xnth_get hlt, some_bind, some_bind, List.drop_eq_getElem_cons hlt]; rfl
          · rw [lt_false (by omega), bif_false, some_bind, List.drop_eq_nil_of_le (by omega)]; rfl
      have hb : group_Read_L0 (s, out) = match unitV (c :: t') with | none => some (.inr ([], false)) | some (v, r) => some (.inl (r, out ++ [v])) := by
        unfold group_Read_L0
        simp only []
        rw [hT, some_bind, hne, bif_false, Bare_eq _ (by omega), some_bind, xnth_cons, some_bind, hN, some_bind, hB, some_bind]
        unfold unitV
        by_cases h0 : unitN (c :: t') = 0
        · rw [if_pos h0, decide_eq_true h0]; rfl
        · rw [if_neg h0, decide_eq_false h0, Bool.false_or]
          cases hbad : badR ((c :: t').drop (unitN (c :: t'))) with
          | true => rfl
          | false =>
            rw [bif_false, if_neg (by decide), xsub0 _ _ hle, some_bind, some_bind]
            have hux : (unq ((c :: t').take (unitN (c :: t')))).1.length ≤ (c :: t').length ∨ True := .inr trivial
            by_cases h34 : (c == 34) = true
            · rw [h34, bif_true, if_pos ((head_cons c t').2 h34), Unquote_eq _ (by rw [List.length_take]; omega), some_bind]
              cases hu : (unq ((c :: t').take (unitN (c :: t')))).2 with
              | false => rfl
              | true =>
                rw [Bool.not_true, bif_false, some_bind, if_pos rfl]
                simp only []
                rw [xapp_sm (by omega) (one_sm _), some_bind, xsub_from hle, some_bind]
            · rw [Bool.not_eq_true] at h34
              rw [h34, bif_false, some_bind, if_neg (by rw [head_cons, h34]; decide)]
              simp only []
              rw [xapp_sm (by omega) (one_sm _), some_bind, xsub_from hle, some_bind]
      cases hu : unitV (c :: t') with
      | none => rw [hu] at hb; rw [whileO_done hb]
      | some p =>
        obtain ⟨v, r⟩ := p
        rw [hu] at hb
        have h1 := unitV_lt hu
        rw [whileO_next hb, ih r _ (by omega) (by omega) (by rw [List.length_append, List.length_singleton]; omega)]
def grpS (s : Str) : List Str × Bool :=
  if s.length < 2 ∨ s.head? ≠ some 40 ∨ s.getLast? ≠ some 41 then ([], false) else grd (s.length + 1) ((s.drop 1).take (s.length - 2)) []
theorem grp_head (s : Str) (hs : s.length ≤ 100000) : (((bif decide ((s.length : Int) < 2) then some true else (xnth s 0).bind fun c3 => some (c3 != 40)).bind fun b4 =>
    (bif b4 then some true else (xnth s (wr ((s.length : Int) - 1))).bind fun c7 => some (c7 != 41))) : Option Bool) = some (decide (s.length < 2 ∨ s.head? ≠ some 40 ∨ s.getLast? ≠ some 41)) := by
  by_cases h2 : s.length < 2
  · rw [decide_eq_true (show (s.length : Int) < 2 by omega), bif_true, some_bind, bif_true, decide_eq_true (.inl h2)]
  · rw [decide_eq_false (show ¬ (s.length : Int) < 2 by omega), bif_false]
    obtain ⟨c, s', rfl⟩ : ∃ c s', s = c :: s' := by cases s with
      | nil => exact absurd (by simp) h2
      | cons c s' => exact ⟨c, s', rfl⟩
    rw [xnth_cons, some_bind, some_bind]
    by_cases hc : c = 40
    · subst hc
      rw [show ((40 : UInt8) != 40) = false from rfl, bif_false, wr_nat (by omega) (by simp only [List.length_cons] at *; omega)]
      rcases List.eq_nil_or_concat (40 :: s') with h | ⟨a, z, h⟩
      · cases h
      · rw [List.concat_eq_append] at h
        rw [h, xnth_lastw, some_bind, List.getLast?_concat]
        have hl : ¬ (a ++ [z]).length < 2 := by rw [← h]; exact h2
        have hh : (a ++ [z]).head? = some 40 := by rw [← h]; rfl
        by_cases hz : z = 41
        · subst hz; rw [show ((41 : UInt8) != 41) = false from rfl, decide_eq_false (by rw [hh]; simp at hl ⊢; omega)]
        · rw [show (z != 41) = true by simpa using hz, decide_eq_true (.inr (.inr (by simpa using hz)))]
    · rw [show (c != 40) = true by simpa using hc, bif_true, decide_eq_true (.inr (.inl (by simpa using hc)))]
theorem Read_eq (s : Str) (hs : s.length ≤ 100000) : group_Read s = some (grpS s) := by
  unfold group_Read grpS
  have hh := grp_head s hs
  rw [← Option.bind_assoc, hh, some_bind]
  by_cases h : s.length < 2 ∨ s.head? ≠ some 40 ∨ s.getLast? ≠ some 41
  · rw [if_pos h, decide_eq_true h]; rfl
  · rw [if_neg h, decide_eq_false h, bif_false]
    have h2 : 2 ≤ s.length := by omega
    have hx : xsub s 1 (wr ((s.length : Int) - 1)) = some ((s.drop 1).take (s.length - 2)) := by
      have hw := wr_pred (n := s.length) (by omega) (by omega)
      rw [hw]
      have := xsub_nat (l := s) (i := 1) (j := s.length - 1) ⟨by omega, by omega⟩
      rw [show ((1 : Nat) : Int) = 1 from rfl] at this
      rw [this, List.drop_take, show s.length - 1 - 1 = s.length - 2 by omega]
    rw [hx, some_bind, Read_loop (s.length + 1) _ [] (by rw [List.length_take, List.length_drop]; omega) (by omega) (by simp; omega), some_bind]
end Go.Eng.Pure
namespace Go.Eng.Pure
open Go Go.Eng
set_option linter.unusedVariables false
def optL {α β : Type} (f : α → Option β) : List α → Option (List β)
  | [] => some []
  | x :: l => match f x with | none => none | some y => match optL f l with | none => none | some ys => some (y :: ys)
theorem while_opt {α β ρ : Type} (l : List α) (f : α → Option β) (e : ρ) (body : (List β × Int) → Option ((List β × Int) ⊕ (List β ⊕ ρ)))
    (h : ∀ n (hn : n < l.length) (out : List β), out.length ≤ n → body (out, (n : Int)) = some (match f l[n] with | some y => .inl (out ++ [y], ((n + 1 : Nat) : Int)) | none => .inr (.inr e)))
    (h' : ∀ out : List β, body (out, (l.length : Int)) = some (.inr (.inl out))) :
    ∀ (k n : Nat) (out : List β), n + k = l.length → out.length ≤ n → whileO body (out, (n : Int)) = some (match optL f (l.drop n) with | some ys => .inl (out ++ ys) | none => .inr e) := by
  intro k
  induction k with
  | zero =>
    intro n out hn ho
    have : n = l.length := by omega
    subst this
    rw [whileO_done (h' out), List.drop_length]; simp [optL]
  | succ k ih =>
    intro n out hn ho
    have hlt : n < l.length := by omega
    have hb := h n hlt out ho
    rw [List.drop_eq_getElem_cons hlt]
    unfold optL
    cases hf : f l[n] with
    | none => rw [hf] at hb; rw [whileO_done hb]
    | some y =>
      rw [hf] at hb
      rw [whileO_next hb, ih (n + 1) _ (by omega) (by rw [List.length_append, List.length_singleton]; omega)]
      simp only []
      cases optL f (l.drop (n + 1)) with
      | none => rfl
      | some ys => simp
theorem while_opt0 {α β ρ : Type} (l : List α) (f : α → Option β) (e : ρ) (body : (List β × Int) → Option ((List β × Int) ⊕ (List β ⊕ ρ)))
    (h : ∀ n (hn : n < l.length) (out : List β), out.length ≤ n → body (out, (n : Int)) = some (match f l[n] with | some y => .inl (out ++ [y], ((n + 1 : Nat) : Int)) | none => .inr (.inr e)))
    (h' : ∀ out : List β, body (out, (l.length : Int)) = some (.inr (.inl out))) : whileO body ([], 0) = some (match optL f l with | some ys => .inl ys | none => .inr e) := by
  have := while_opt l f e body h h' l.length 0 [] (by omega) (by simp)
  rw [show ((0 : Nat) : Int) = 0 from rfl, List.drop_zero] at this
  rw [this]
  cases optL f l <;> simp
theorem optL_len {α β : Type} (f : α → Option β) : ∀ (l : List α) (ys : List β), optL f l = some ys → ys.length = l.length ∧ ∀ y ∈ ys, ∃ x ∈ l, f x = some y
  | [], ys, h => by cases h; exact ⟨rfl, by simp⟩
  | x :: l, ys, h => by
    unfold optL at h
    cases hx : f x with
    | none => rw [hx] at h; cases h
    | some y =>
      rw [hx] at h
      cases hl : optL f l with
      | none => rw [hl] at h; cases h
      | some zs =>
        rw [hl] at h
        cases h
        obtain ⟨h1, h2⟩ := optL_len f l zs hl
        refine ⟨by simp [h1], fun z hz => ?_⟩
        rcases List.mem_cons.1 hz with rfl | hz
        · exact ⟨x, by simp, hx⟩
        · obtain ⟨x', hx', e⟩ := h2 z hz
          exact ⟨x', by simp [hx'], e⟩
def midL (l : List GField) : Prop := l.length ≤ 1000000 ∧ ∀ f ∈ l, f.fName.length ≤ 100000 ∧ f.fValue.length ≤ 100000
theorem midL_F {l : List GField} (h : midL l) : l.length ≤ 1073741824 ∧ ∀ f ∈ l, smF f := ⟨by have := h.1; omega, fun f hf => by have := h.2 f hf; exact ⟨by omega, by omega⟩⟩
theorem midL_of {l : List GField} (h : smL l) : midL l := ⟨by have := h.1; omega, fun f hf => by have := h.2 f hf; exact ⟨by omega, by omega⟩⟩
theorem allM_mid {l : List GField} (h : midL l) (n : Str) : (allM l n).length ≤ 64 ∧ ∀ m ∈ allM l n, m.length ≤ 100000 := ⟨allM_len l n, allM_sm l n 100000 fun f hf => (h.2 f hf).2⟩
theorem grd_sm : ∀ (k : Nat) (s : Str) (out : List Str), (∀ v ∈ (grd k s out).1, v ∈ out ∨ v.length ≤ s.length) ∧ (grd k s out).1.length ≤ out.length + s.length := by
  intro k
  induction k with
  | zero => intro s out; exact ⟨fun v h => .inl h, Nat.le_add_right _ _⟩
  | succ k ih =>
    intro s out
    unfold grd
    split
    · exact ⟨fun v h => .inl h, Nat.le_add_right _ _⟩
    · cases hu : unitV (s.dropWhile sp) with
      | none => exact ⟨fun v h => by simp at h, by simp⟩
      | some p =>
        obtain ⟨v, r⟩ := p
        have h1 := unitV_lt hu
        have h2 := dropW_le s
        obtain ⟨g1, g2⟩ := ih r (out ++ [v])
        have hv : v.length ≤ s.length := by
          have hle := unitN_le (s.dropWhile sp)
          unfold unitV at hu
          split at hu
          · cases hu
          · split at hu
            · cases hu
            · split at hu
              · split at hu
                · injection hu with hu
                  rw [← (Prod.mk.inj hu).1]
                  have := unq_len ((s.dropWhile sp).take (unitN (s.dropWhile sp)))
                  rw [List.length_take] at this; omega
                · cases hu
              · injection hu with hu
                rw [← (Prod.mk.inj hu).1, List.length_take]; omega
        refine ⟨fun u hu => ?_, ?_⟩
        · rcases g1 u hu with h | h
          · rcases List.mem_append.1 h with h | h
            · exact .inl h
            · rw [List.mem_singleton] at h; subst h; exact .inr hv
          · exact .inr (by omega)
        · rw [List.length_append, List.length_singleton] at g2; simp only []; omega
theorem grpS_sm (s : Str) : (∀ v ∈ (grpS s).1, v.length ≤ s.length) ∧ (grpS s).1.length ≤ s.length := by
  unfold grpS
  split
  · exact ⟨fun v h => by simp at h, by simp⟩
  · obtain ⟨g1, g2⟩ := grd_sm (s.length + 1) ((s.drop 1).take (s.length - 2)) []
    have hl : ((s.drop 1).take (s.length - 2)).length ≤ s.length := by rw [List.length_take]; omega
    refine ⟨fun v h => ?_, ?_⟩
    · rcases g1 v h with h | h
      · simp at h
      · omega
    · simp only [List.length_nil, Nat.zero_add] at g2; omega
def varN : Str := [86, 97, 114, 105, 97, 110, 116, 115]
def keyN : Str := [86, 97, 114, 105, 97, 110, 116, 45, 75, 101, 121]
def memV (m : Str) : Option GAxis :=
  if 61 ∈ m then (if (grpS (m.drop (m.idxOf 61 + 1))).2 && tok (m.take (m.idxOf 61)) then some ⟨lower (m.take (m.idxOf 61)), (grpS (m.drop (m.idxOf 61 + 1))).1⟩ else none) else none
def parV (l : List GField) : List GAxis × Int :=
  if hasF l varN then (match optL memV (allM l varN) with | none => ([], 1) | some xs => if valB xs then (xs, 0) else ([], 11)) else ([], 12)
theorem memV_sm {m : Str} {a : GAxis} (h : memV m = some a) (hm : m.length ≤ 100000) : smA a ∧ a.fValues.length ≤ 100000 := by
  unfold memV at h
  split at h
  · split at h
    · injection h with h
      subst h
      obtain ⟨h1, h2⟩ := grpS_sm (m.drop (m.idxOf 61 + 1))
      have hd : (m.drop (m.idxOf 61 + 1)).length ≤ m.length := by rw [List.length_drop]; omega
      refine ⟨⟨?_, fun v hv => ?_⟩, by simp only []; omega⟩
      · simp only []
        rw [lower_len, List.length_take]; omega
      · have := h1 v hv; omega
    · cases h
  · cases h
theorem optV_sm {l : List GField} (hl : midL l) {xs : List GAxis} (h : optL memV (allM l varN) = some xs) : xs.length ≤ 64 ∧ ∀ a ∈ xs, smA a ∧ a.fValues.length ≤ 100000 := by
  obtain ⟨h1, h2⟩ := optL_len _ _ _ h
  obtain ⟨a1, a2⟩ := allM_mid hl varN
  refine ⟨by omega, fun a ha => ?_⟩
  obtain ⟨m, hm, e⟩ := h2 a ha
  exact memV_sm e (a2 m hm)
theorem VParse_eq (l : List GField) (hl : midL l) : variants_Parse l = some (parV l) := by
  obtain ⟨h1, h2⟩ := midL_F hl
  obtain ⟨a1, a2⟩ := allM_mid hl varN
  unfold variants_Parse parV
  rw [Has_eq l _ h1 h2 (by decide), some_bind]
  show (bif !hasF l varN then _ else _) = _
  cases hasF l varN with
  | false => rfl
  | true =>
    rw [Bool.not_true, bif_false, if_pos rfl, All_eq l _ h1 h2 (by decide), some_bind]
    show (whileO (variants_Parse_L0 (allM l varN)) ([], 0)).bind _ = _
    rw [while_opt0 (allM l varN) memV ([], 1) _ ?_ ?_]
    · rw [some_bind]
      cases ho : optL memV (allM l varN) with
      | none => rfl
      | some xs =>
        simp only []
        rw [VValid_eq xs fun a ha => ((optV_sm hl ho).2 a ha).1, some_bind]
        cases valB xs <;> rfl
    · intro n hn out ho
      have hm := a2 _ (List.getElem_mem hn)
      unfold variants_Parse_L0 memV
      simp only []
      rw [lt_true hn, bif_true, xnth_get hn, some_bind]
      generalize (allM l varN)[n] = m at *
      rw [SCutC_eq m 61 (by omega), some_bind]
      by_cases h61 : (61 : UInt8) ∈ m
      · rw [if_pos h61, if_pos h61]
        simp only []
        rw [Read_eq _ (by rw [List.length_drop]; omega), some_bind, Token_eq _ (by rw [List.length_take]; omega)]
        cases (grpS (m.drop (m.idxOf 61 + 1))).2 with
        | false => rfl
        | true =>
          rw [Bool.not_true, bif_false, some_bind, some_bind, Bool.true_and]
          cases tok (m.take (m.idxOf 61)) with
          | false => rfl
          | true =>
            rw [Bool.not_true, bif_false, if_pos rfl, Lower_eq _ (by rw [List.length_take]; omega), some_bind, xapp_sm (by omega) (one_sm _), some_bind, wrs (by omega)]
      · rw [if_neg h61, if_neg h61]
        simp only []
        rw [Read_eq [] (by decide), some_bind]
        rfl
    · intro out
      unfold variants_Parse_L0
      simp only []
      rw [lt_false (Nat.le_refl _), bif_false]
end Go.Eng.Pure
namespace Go.Eng.Pure
open Go Go.Eng
set_option linter.unusedVariables false
theorem CfLL_eq (ms : List (List Str)) (f : List Str → Option Bool) (p : List Str → Bool) (hl : ms.length ≤ 1073741824) (h : ∀ m ∈ ms, f m = some (p m)) : slices_ContainsFunc_LL_string_string ms f = some (ms.any p) := by
  have key : ∀ (k n : Nat), n + k = ms.length → ∃ r, whileO (slices_IndexFunc_LL_string_string_L0 ms f) (n : Int) = some r ∧ (match r with | .inr e => (0 : Int) ≤ e ∧ (ms.drop n).any p = true | .inl _ => (ms.drop n).any p = false) := by
    intro k
    induction k with
    | zero =>
      intro n hn
      obtain rfl : n = ms.length := by omega
      refine ⟨.inl (), whileO_done ?_, by rw [List.drop_length]; rfl⟩
      simp only [slices_IndexFunc_LL_string_string_L0, lt_false (Nat.le_refl ms.length), bif_false]
    | succ k ih =>
      intro n hn
      have hlt : n < ms.length := by omega
      have hb : slices_IndexFunc_LL_string_string_L0 ms f (n : Int) = some (if p ms[n] then .inr (.inr (n : Int)) else .inl ((n + 1 : Nat) : Int)) := by
        simp only [slices_IndexFunc_LL_string_string_L0, lt_true hlt, bif_true, xnth_get hlt, some_bind, h _ (List.getElem_mem hlt), wrs (show n ≤ 4 * 1073741824 by omega)]
        cases p ms[n] <;> rfl
      rw [List.drop_eq_getElem_cons hlt, List.any_cons]
      cases hp : p ms[n] with
      | true =>
        rw [hp, if_pos rfl] at hb
        exact ⟨_, whileO_done hb, by simp only []; exact ⟨by omega, rfl⟩⟩
      | false =>
        rw [hp, if_neg (by decide)] at hb
        obtain ⟨r, hr, hm⟩ := ih (n + 1) (by omega)
        refine ⟨r, by rw [whileO_next hb]; exact hr, ?_⟩
        cases r <;> simpa using hm
  obtain ⟨r, hr, hm⟩ := key ms.length 0 (by omega)
  rw [show ((0 : Nat) : Int) = 0 from rfl] at hr
  rw [List.drop_zero] at hm
  unfold slices_ContainsFunc_LL_string_string slices_IndexFunc_LL_string_string
  rw [hr, some_bind]
  cases r with
  | inr e => simp only [] at hm ⊢; rw [some_bind, hm.2, decide_eq_true hm.1]
  | inl u => simp only [] at hm ⊢; rw [some_bind, hm]; rfl
def memK (m : Str) : Option (List Str) := if (grpS m).2 then some (grpS m).1 else none
def addK (axes : List GAxis) : List (List Str) → List (List Str) → Option (List (List Str))
  | [], out => some out
  | r :: l, out => if (resS axes r).2 then addK axes l (if out.any (fun k => k == (resS axes r).1) then out else out ++ [(resS axes r).1]) else none
def parK (l : List GField) (axes : List GAxis) : List (List Str) × Int :=
  if valB axes then (if (allM l keyN).length = 0 then ([], 12) else match optL memK (allM l keyN) with | none => ([], 1) | some ks => match addK axes ks [] with | none => ([], 11) | some out => (out, 0)) else ([], 10)
def smX (axes : List GAxis) : Prop := axes.length ≤ 64 ∧ ∀ a ∈ axes, smA a ∧ a.fValues.length ≤ 100000
theorem parV_smX {l : List GField} (hl : midL l) : smX (parV l).1 := by
  unfold parV
  split
  · cases ho : optL memV (allM l varN) with
    | none => exact ⟨by simp, fun a h => by simp at h⟩
    | some xs =>
      simp only []
      split
      · exact optV_sm hl ho
      · exact ⟨by simp, fun a h => by simp at h⟩
  · exact ⟨by simp, fun a h => by simp at h⟩
theorem optK_sm {l : List GField} (hl : midL l) {ks : List (List Str)} (h : optL memK (allM l keyN) = some ks) : ks.length ≤ 64 ∧ ∀ k ∈ ks, k.length ≤ 100000 ∧ ∀ v ∈ k, v.length ≤ 100000 := by
  obtain ⟨h1, h2⟩ := optL_len _ _ _ h
  obtain ⟨a1, a2⟩ := allM_mid hl keyN
  refine ⟨by omega, fun k hk => ?_⟩
  obtain ⟨m, hm, e⟩ := h2 k hk
  have := a2 m hm
  obtain ⟨g1, g2⟩ := grpS_sm m
  unfold memK at e
  split at e
  · injection e with e; subst e
    exact ⟨by omega, fun v hv => by have := g1 v hv; omega⟩
  · cases e
theorem valB_ax {axes : List GAxis} (h : valB axes = true) : axes.length ≤ 4 ∧ ∀ a ∈ axes, axV a = true := by
  unfold valB at h
  rw [Bool.and_eq_true, Bool.and_eq_true, decide_eq_true_eq, decide_eq_true_eq] at h
  refine ⟨h.1.2, fun a ha => ?_⟩
  obtain ⟨j, hj, e⟩ := List.mem_iff_getElem.1 ha
  have := chk_pair _ _ _ h.2 j hj
  rw [e] at this
  unfold okA axN at this
  simp only [Bool.and_eq_true] at this
  exact this.1.2
theorem axV_len {a : GAxis} (h : axV a = true) : a.fValues.length ≤ 16 := by
  unfold axV at h
  simp only [Bool.and_eq_true, decide_eq_true_eq] at h
  exact h.1.2
theorem addK_loop (axes : List GAxis) (hx : smX axes) (hv : valB axes = true) (ks : List (List Str)) (hk : ks.length ≤ 64 ∧ ∀ k ∈ ks, k.length ≤ 100000 ∧ ∀ v ∈ k, v.length ≤ 100000) :
    ∀ (k n : Nat) (out : List (List Str)), n + k = ks.length → out.length ≤ n → (∀ o ∈ out, o.length ≤ 64) → whileO (variantkey_Parse_L1 axes ks) (out, (n : Int)) = some (match addK axes (ks.drop n) out with | some o => .inl o | none => .inr ([], 11)) := by
  obtain ⟨v1, v2⟩ := valB_ax hv
  intro k
  induction k with
  | zero =>
    intro n out hn ho hs
    have : n = ks.length := by omega
    subst this
    have hb : variantkey_Parse_L1 axes ks (out, (ks.length : Int)) = some (.inr (.inl out)) := by
      unfold variantkey_Parse_L1
      simp only []
      rw [lt_false (Nat.le_refl _), bif_false]
    rw [whileO_done hb, List.drop_length]; rfl
  | succ k ih =>
    intro n out hn ho hs
    have hlt : n < ks.length := by omega
    obtain ⟨hk1, hk2⟩ := hk.2 _ (List.getElem_mem hlt)
    rw [List.drop_eq_getElem_cons hlt]
    have hg := xnth_get hlt
    generalize ks[n] = q at *
    have hres := Resolve_eq axes q (by omega) (fun a ha => ⟨(hx.2 a ha).1, by have := axV_len (v2 a ha); omega⟩) (fun v hv => by have := hk2 v hv; omega)
    have hcf : slices_ContainsFunc_LL_string_string out (fun x0 => variantkey_Parse_1 x0 (resS axes q).1) = some (out.any fun k => k == (resS axes q).1) := by
      refine CfLL_eq _ _ _ (by omega) fun m hm => ?_
      unfold variantkey_Parse_1
      rw [SEqual_eq m _ (by have := hs m hm; omega), some_bind]
    unfold addK
    cases hr : (resS axes q).2 with
    | false =>
      have hb : variantkey_Parse_L1 axes ks (out, (n : Int)) = some (.inr (.inr ([], 11))) := by
        unfold variantkey_Parse_L1
        simp only []
        rw [lt_true hlt, bif_true, hg, some_bind, hres, some_bind, hr]; rfl
      rw [whileO_done hb]; rfl
    | true =>
      have hb : variantkey_Parse_L1 axes ks (out, (n : Int)) = some (.inl ((if out.any (fun k => k == (resS axes q).1) then out else out ++ [(resS axes q).1]), ((n + 1 : Nat) : Int))) := by
        unfold variantkey_Parse_L1
        simp only []
        rw [lt_true hlt, bif_true, hg, some_bind, hres, some_bind, hr, Bool.not_true, bif_false, hcf, some_bind, wrs (by omega)]
        cases out.any (fun k => k == (resS axes q).1) with
        | true => rfl
        | false => rw [Bool.not_false, bif_true, xapp_sm (by omega) (one_sm _), some_bind]; rfl
      have hlen : (resS axes q).1.length ≤ 64 := by
        have key : ∀ (al : List GAxis) (kl acc out : List Str), resL al kl acc = some out → out.length ≤ acc.length + al.length := by
          intro al
          induction al with
          | nil => intro kl acc out h; unfold resL at h; cases kl <;> (injection h with h; subst h; simp)
          | cons a al ih =>
            intro kl acc out h
            cases kl with
            | nil => unfold resL at h; injection h with h; subst h; simp
            | cons k kl =>
              unfold resL at h
              cases hf : a.fValues.find? (samV a k) with
              | none => rw [hf] at h; cases h
              | some v =>
                rw [hf] at h
                have := ih kl _ out h
                simp only [List.length_append, List.length_cons, List.length_nil] at this ⊢; omega
        unfold resS
        split
        · cases hrl : resL axes q [] with
          | none => simp
          | some o =>
            have := key axes q [] o hrl
            simp only [List.length_nil] at this ⊢; omega
        · simp
      rw [whileO_next hb, if_pos rfl, ih (n + 1) _ (by omega) ?_ ?_]
      · split
        · omega
        · rw [List.length_append, List.length_singleton]; omega
      · intro o ho2
        split at ho2
        · exact hs o ho2
        · rcases List.mem_append.1 ho2 with h | h
          · exact hs o h
          · rw [List.mem_singleton] at h; subst h; exact hlen
theorem KParse_eq (l : List GField) (axes : List GAxis) (hl : midL l) (hx : smX axes) : variantkey_Parse l axes = some (parK l axes) := by
  obtain ⟨h1, h2⟩ := midL_F hl
  obtain ⟨a1, a2⟩ := allM_mid hl keyN
  unfold variantkey_Parse parK
  rw [VValid_eq axes fun a ha => (hx.2 a ha).1, some_bind]
  cases hv : valB axes with
  | false => rfl
  | true =>
    rw [Bool.not_true, bif_false, if_pos rfl, All_eq l _ h1 h2 (by decide), some_bind]
    show (bif (((allM l keyN).length : Int) == 0) then _ else _) = _
    by_cases h0 : (allM l keyN).length = 0
    · rw [if_pos h0, show (((allM l keyN).length : Int) == 0) = true by simp [h0], bif_true]
    · rw [if_neg h0, show (((allM l keyN).length : Int) == 0) = false from beq_eq_false_iff_ne.2 (by omega), bif_false]
      show (whileO (variantkey_Parse_L0 (allM l keyN)) ([], 0)).bind _ = _
      rw [while_opt0 (allM l keyN) memK ([], 1) _ ?_ ?_]
      · rw [some_bind]
        cases ho : optL memK (allM l keyN) with
        | none => rfl
        | some ks =>
          simp only []
          have := addK_loop axes hx hv ks (optK_sm hl ho) ks.length 0 [] (by omega) (by simp) (by simp)
          rw [show ((0 : Nat) : Int) = 0 from rfl, List.drop_zero] at this
          rw [this, some_bind]
          cases addK axes ks [] <;> rfl
      · intro n hn out ho
        have hm := a2 _ (List.getElem_mem hn)
        unfold variantkey_Parse_L0 memK
        simp only []
        rw [lt_true hn, bif_true, xnth_get hn, some_bind]
        generalize (allM l keyN)[n] = m at *
        rw [Read_eq _ (by omega), some_bind]
        cases (grpS m).2 with
        | false => rfl
        | true => rw [Bool.not_true, bif_false, if_pos rfl, xapp_sm (by omega) (one_sm _), some_bind, wrs (by omega)]
      · intro out
        unfold variantkey_Parse_L0
        simp only []
        rw [lt_false (Nat.le_refl _), bif_false]
end Go.Eng.Pure
