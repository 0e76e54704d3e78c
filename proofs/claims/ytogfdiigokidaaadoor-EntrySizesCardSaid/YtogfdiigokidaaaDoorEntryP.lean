/- Layer 26: the sizes of entries, their ages, equality; the response for an entry. -/
import Derived.Test.YtogfdiigokidaaaDoorStorP
import Derived.Test.YtogfdiigokidaaaDoorDecP
namespace Go.Eng
theorem while_sum {α ρ : Type} (l : List α) (g : α → Nat) (G a : Nat) (fin : Int → ρ) (body : (Int × Int) → Option ((Int × Int) ⊕ ρ)) (hG : ∀ x ∈ l, g x ≤ G)
    (h : ∀ k (hk : k < l.length) (n : Nat), n ≤ a + k * G → body ((n : Int), (k : Int)) = some (.inl (((n + g l[k] : Nat) : Int), ((k + 1 : Nat) : Int))))
    (h' : ∀ n : Int, body (n, (l.length : Int)) = some (.inr (fin n))) : whileO body ((a : Int), 0) = some (fin ((a + (l.map g).sum : Nat) : Int)) := by
  have hb : ∀ k, k ≤ l.length → ((l.take k).map g).sum ≤ k * G := by
    intro k hk
    induction k with
    | zero => simp
    | succ k ih =>
      rw [take_succ_get (by omega), List.map_append, List.sum_append, Nat.succ_mul]
      have := ih (by omega)
      have := hG l[k] (List.getElem_mem (by omega))
      simp only [List.map_cons, List.map_nil, List.sum_cons, List.sum_nil]
      omega
  have := while_count (fun k => (((a + ((l.take k).map g).sum : Nat) : Int), (k : Int))) l.length (fin ((a + (l.map g).sum : Nat) : Int)) body ?_ ?_
  · simpa using this
  · intro k hk
    rw [h k hk _ (by have := hb k (by omega); omega)]
    rw [take_succ_get hk, List.map_append, List.sum_append]
    simp only [List.map_cons, List.map_nil, List.sum_cons, List.sum_nil, Nat.add_zero, Nat.add_assoc]
  · rw [h', List.take_length]
end Go.Eng
namespace Go.Eng.Pure
open Go Go.Eng
set_option linter.unusedVariables false
theorem wr4 {b : Nat} (h : 4 + b ≤ 4 * 1073741824) : wr (4 + (b : Int)) = ((4 + b : Nat) : Int) := by rw [← wrn h]; congr 1
theorem wr100 {b : Nat} (h : 100 + b ≤ 4 * 1073741824) : wr (100 + (b : Int)) = ((100 + b : Nat) : Int) := by rw [← wrn h]; congr 1
theorem wra {a b : Nat} (h : a + b ≤ 4 * 1073741824) : wr ((a : Int) + (b : Int)) = ((a + b : Nat) : Int) := by rw [← wrn h]; congr 1
def lensS (l : List Str) : Nat := (l.map fun s => 4 + s.length).sum
theorem lens_bd (l : List Str) (N B : Nat) (h1 : l.length ≤ N) (h2 : ∀ s ∈ l, s.length ≤ B) : lensS l ≤ N * (4 + B) := by
  have : lensS l ≤ l.length * (4 + B) := by
    clear h1
    induction l with
    | nil => simp [lensS]
    | cons x l ih =>
      have h3 := ih (fun s hs => h2 s (List.mem_cons_of_mem _ hs))
      have h4 := h2 x List.mem_cons_self
      unfold lensS at h3 ⊢
      simp only [List.map_cons, List.sum_cons, List.length_cons, Nat.succ_mul]
      omega
  exact Nat.le_trans this (Nat.mul_le_mul_right _ h1)
/-- Short lists of short strings. -/
def smS (l : List Str) : Prop := l.length ≤ 1000 ∧ ∀ s ∈ l, s.length ≤ 1000
theorem lengths_eq (l : List Str) (h : smS l) : entry_lengths l = some (lensS l : Int) := by
  unfold entry_lengths lensS
  rw [show (0 : Int) = ((0 : Nat) : Int) from rfl, show (((0 : Nat) : Int), ((0 : Nat) : Int)) = (((0 : Nat) : Int), (0 : Int)) from rfl, while_sum l (fun s => 4 + s.length) 1004 0 (fun n => n) _ (fun s hs => by have := h.2 s hs; omega)]
  · simp
  · intro k hk n hn
    have h1 := h.1
    have h2 := h.2 l[k] (List.getElem_mem hk)
    have hn' : n ≤ 2000000 := by have : k * 1004 ≤ 1000 * 1004 := Nat.mul_le_mul_right _ (by omega); omega
    simp only [entry_lengths_L0, lt_true hk, bif_true, xnth_get hk, some_bind]
    rw [wr4 (b := l[k].length) (by omega), wra (a := n) (b := 4 + l[k].length) (by omega), wrs (n := k) (by omega)]
  · intro n
    simp only [entry_lengths_L0, lt_false (Nat.le_refl _), bif_false]
/-- Entries that are not great. -/
def smE (e : GEntry) : Prop := (e.fKeys.length ≤ 10 ∧ ∀ k ∈ e.fKeys, smS k) ∧ smS e.fVary ∧ smS e.fSnapshot ∧ smL e.fFields ∧ e.fReason.length ≤ 100 ∧ e.fBody.length ≤ 2000
def fldsS (l : List GField) : Nat := (l.map fun f => 4 + f.fName.length + f.fValue.length).sum
def keysS (l : List (List Str)) : Nat := (l.map lensS).sum
def sizeS (e : GEntry) : Nat := 100 + e.fReason.length + e.fBody.length + lensS e.fVary + lensS e.fSnapshot + fldsS e.fFields + keysS e.fKeys
theorem lens_sm {l : List Str} (h : smS l) : lensS l ≤ 1004000 := lens_bd l 1000 1000 h.1 h.2
theorem flds_bd {l : List GField} (h : smL l) : fldsS l ≤ 70 * 604 := by
  have : fldsS l ≤ l.length * 604 := by
    have h2 := h.2
    clear h
    induction l with
    | nil => simp [fldsS]
    | cons x l ih =>
      have h3 := ih (fun s hs => h2 s (List.mem_cons_of_mem _ hs))
      have h4 := h2 x List.mem_cons_self
      unfold fldsS at h3 ⊢
      simp only [List.map_cons, List.sum_cons, List.length_cons, Nat.succ_mul]
      omega
  exact Nat.le_trans this (Nat.mul_le_mul_right _ h.1)
theorem keys_bd {l : List (List Str)} (h1 : l.length ≤ 10) (h2 : ∀ k ∈ l, smS k) : keysS l ≤ 10 * 1004000 := by
  have : keysS l ≤ l.length * 1004000 := by
    clear h1
    induction l with
    | nil => simp [keysS]
    | cons x l ih =>
      have h3 := ih (fun s hs => h2 s (List.mem_cons_of_mem _ hs))
      have h4 := lens_sm (h2 x List.mem_cons_self)
      unfold keysS at h3 ⊢
      simp only [List.map_cons, List.sum_cons, List.length_cons, Nat.succ_mul]
      omega
  exact Nat.le_trans this (Nat.mul_le_mul_right _ h1)
theorem Size_eq (e : GEntry) (h : smE e) : entry_Size e = some (sizeS e : Int) := by
  obtain ⟨⟨hk1, hk2⟩, hv, hs, hf, hr, hb⟩ := h
  unfold entry_Size sizeS
  have b1 := lens_sm hv; have b2 := lens_sm hs; have b3 := flds_bd hf; have b4 := keys_bd hk1 hk2
  rw [lengths_eq _ hv, some_bind, lengths_eq _ hs, some_bind,
    wr100 (b := e.fReason.length) (by omega), wra (a := 100 + e.fReason.length) (b := e.fBody.length) (by omega), wra (a := 100 + e.fReason.length + e.fBody.length) (b := lensS e.fVary) (by omega),
    wra (a := 100 + e.fReason.length + e.fBody.length + lensS e.fVary) (b := lensS e.fSnapshot) (by omega)]
  have ha : 100 + e.fReason.length + e.fBody.length + lensS e.fVary + lensS e.fSnapshot ≤ 3000000 := by omega
  generalize 100 + e.fReason.length + e.fBody.length + lensS e.fVary + lensS e.fSnapshot = a at *
  rw [while_sum e.fFields (fun f => 4 + f.fName.length + f.fValue.length) 604 a (fun n => n) _ (fun f hm => by have := hf.2 f hm; omega)]
  · rw [some_bind]
    show (whileO (entry_Size_L1 e) (((a + fldsS e.fFields : Nat) : Int), 0)).bind _ = _
    rw [while_sum e.fKeys lensS 1004000 (a + fldsS e.fFields) (fun n => n) _ (fun k hm => lens_sm (hk2 k hm))]
    · rfl
    · intro k hk n hn
      have h2 := lens_sm (hk2 e.fKeys[k] (List.getElem_mem hk))
      have hn' : n ≤ 20000000 := by have : k * 1004000 ≤ 10 * 1004000 := Nat.mul_le_mul_right _ (by omega); omega
      simp only [entry_Size_L1, lt_true hk, bif_true, xnth_get hk, some_bind, lengths_eq _ (hk2 e.fKeys[k] (List.getElem_mem hk))]
      rw [wra (a := n) (b := lensS e.fKeys[k]) (by omega), wrs (n := k) (by omega)]
    · intro n
      simp only [entry_Size_L1, lt_false (Nat.le_refl _), bif_false]
  · intro k hk n hn
    have h1 := hf.1
    have h2 := hf.2 e.fFields[k] (List.getElem_mem hk)
    have hn' : n ≤ 4000000 := by have : k * 604 ≤ 70 * 604 := Nat.mul_le_mul_right _ (by omega); omega
    simp only [entry_Size_L0, lt_true hk, bif_true, xnth_get hk, some_bind]
    rw [wr4 (b := e.fFields[k].fName.length) (by omega), wra (a := 4 + e.fFields[k].fName.length) (b := e.fFields[k].fValue.length) (by omega), wra (a := n) (b := 4 + e.fFields[k].fName.length + e.fFields[k].fValue.length) (by omega), wrs (n := k) (by omega)]
  · intro n
    simp only [entry_Size_L0, lt_false (Nat.le_refl _), bif_false]
theorem RSize_eq (e : GEntry) (h : smE e) : ref26_Size e = some (sizeS e : Int) := by
  obtain ⟨⟨hk1, hk2⟩, hv, hs, hf, hr, hb⟩ := h
  unfold ref26_Size sizeS
  have b1 := lens_sm hv; have b2 := lens_sm hs; have b3 := flds_bd hf; have b4 := keys_bd hk1 hk2
  rw [wr100 (b := e.fReason.length) (by omega), wra (a := 100 + e.fReason.length) (b := e.fBody.length) (by omega)]
  rw [while_sum e.fFields (fun f => 4 + f.fName.length + f.fValue.length) 604 (100 + e.fReason.length + e.fBody.length) (fun n => n) _ (fun f hm => by have := hf.2 f hm; omega)]
  rotate_left
  · intro k hk n hn
    have h1 := hf.1
    have h2 := hf.2 e.fFields[k] (List.getElem_mem hk)
    have hn' : n ≤ 4000000 := by have : k * 604 ≤ 70 * 604 := Nat.mul_le_mul_right _ (by omega); omega
    simp only [ref26_Size_L0, lt_true hk, bif_true, xnth_get hk, some_bind]
    rw [wr4 (b := e.fFields[k].fName.length) (by omega), wra (a := 4 + e.fFields[k].fName.length) (b := e.fFields[k].fValue.length) (by omega), wra (a := n) (b := 4 + e.fFields[k].fName.length + e.fFields[k].fValue.length) (by omega), wrs (n := k) (by omega)]
  · intro n
    simp only [ref26_Size_L0, lt_false (Nat.le_refl _), bif_false]
  rw [some_bind]
  show (whileO (ref26_Size_L2 e) (((100 + e.fReason.length + e.fBody.length + fldsS e.fFields : Nat) : Int), 0)).bind _ = _
  rw [while_sum e.fKeys lensS 1004000 (100 + e.fReason.length + e.fBody.length + fldsS e.fFields) (fun n => n) _ (fun k hm => lens_sm (hk2 k hm))]
  rotate_left
  · intro k hk n hn
    have hsm := hk2 e.fKeys[k] (List.getElem_mem hk)
    have h2 := lens_sm hsm
    have hn' : n ≤ 20000000 := by have : k * 1004000 ≤ 10 * 1004000 := Nat.mul_le_mul_right _ (by omega); omega
    simp only [ref26_Size_L2, lt_true hk, bif_true]
    rw [while_sum e.fKeys[k] (fun s => 4 + s.length) 1004 n (fun n => n) _ (fun s hs => by have := hsm.2 s hs; omega)]
    · simp only [some_bind]
      rw [wrs (n := k) (by omega)]; rfl
    · intro j hj m hm
      have h3 := hsm.1
      have h4 := hsm.2 _ (List.getElem_mem hj)
      have hm' : m ≤ 30000000 := by have : j * 1004 ≤ 1000 * 1004 := Nat.mul_le_mul_right _ (by omega); omega
      simp only [ref26_Size_L1, xnth_get hk, some_bind, lt_true hj, bif_true, xnth_get hj]
      rw [wr4 (b := e.fKeys[k][j].length) (by omega), wra (a := m) (b := 4 + e.fKeys[k][j].length) (by omega), wrs (n := j) (by omega)]
    · intro m
      simp only [ref26_Size_L1, xnth_get hk, some_bind, lt_false (Nat.le_refl _), bif_false]
  · intro n
    simp only [ref26_Size_L2, lt_false (Nat.le_refl _), bif_false]
  rw [some_bind]
  show (whileO (ref26_Size_L3 e) (((100 + e.fReason.length + e.fBody.length + fldsS e.fFields + keysS e.fKeys : Nat) : Int), 0)).bind _ = _
  rw [while_sum e.fVary (fun s => 4 + s.length) 1004 (100 + e.fReason.length + e.fBody.length + fldsS e.fFields + keysS e.fKeys) (fun n => n) _ (fun s hs => by have := hv.2 s hs; omega)]
  rotate_left
  · intro j hj m hm
    have h3 := hv.1
    have h4 := hv.2 _ (List.getElem_mem hj)
    have hm' : m ≤ 30000000 := by have : j * 1004 ≤ 1000 * 1004 := Nat.mul_le_mul_right _ (by omega); omega
    simp only [ref26_Size_L3, some_bind, lt_true hj, bif_true, xnth_get hj]
    rw [wr4 (b := e.fVary[j].length) (by omega), wra (a := m) (b := 4 + e.fVary[j].length) (by omega), wrs (n := j) (by omega)]
  · intro m
    simp only [ref26_Size_L3, lt_false (Nat.le_refl _), bif_false]
  rw [some_bind]
  show (whileO (ref26_Size_L4 e) (((100 + e.fReason.length + e.fBody.length + fldsS e.fFields + keysS e.fKeys + lensS e.fVary : Nat) : Int), 0)).bind _ = _
  rw [while_sum e.fSnapshot (fun s => 4 + s.length) 1004 (100 + e.fReason.length + e.fBody.length + fldsS e.fFields + keysS e.fKeys + lensS e.fVary) (fun n => n) _ (fun s hs' => by have := hs.2 s hs'; omega)]
  rotate_left
  · intro j hj m hm
    have h3 := hs.1
    have h4 := hs.2 _ (List.getElem_mem hj)
    have hm' : m ≤ 30000000 := by have : j * 1004 ≤ 1000 * 1004 := Nat.mul_le_mul_right _ (by omega); omega
    simp only [ref26_Size_L4, some_bind, lt_true hj, bif_true, xnth_get hj]
    rw [wr4 (b := e.fSnapshot[j].length) (by omega), wra (a := m) (b := 4 + e.fSnapshot[j].length) (by omega), wrs (n := j) (by omega)]
  · intro m
    simp only [ref26_Size_L4, lt_false (Nat.le_refl _), bif_false]
  rw [some_bind]
  show some (((100 + e.fReason.length + e.fBody.length + fldsS e.fFields + keysS e.fKeys + lensS e.fVary + lensS e.fSnapshot : Nat) : Int)) = _
  congr 2
  omega
def ageE (e : GEntry) (now : Int) : Int := ageS e.fFields e.fRequested e.fReceived now
theorem EAge_eq (e : GEntry) (now : Int) (hf : smL e.fFields) : entry_Age e now = some (ageE e now) := by
  unfold entry_Age
  obtain ⟨h1, h2⟩ := smL_F hf
  rw [Age_eq _ h1 h2, some_bind]; rfl
theorem REAge_eq (e : GEntry) (now : Int) (hf : smL e.fFields) : ref26_Age e now = some (ageE e now) := by
  unfold ref26_Age
  obtain ⟨h1, h2⟩ := smL_F hf
  rw [RAge_eq _ h1 h2, some_bind]; rfl
theorem fieldB (a b : GField) : (!((a.fName == b.fName) && ((a.fValue == b.fValue) && true))) = !decide (a = b) := by
  obtain ⟨n, v⟩ := a; obtain ⟨n', v'⟩ := b
  rw [Bool.and_true]
  congr 1
  rw [Bool.eq_iff_iff]
  simp
theorem FEqual_eq (a b : List GField) (ha : a.length ≤ 1073741824) : slices_Equal_api_Field_api_Field a b = some (decide (a = b)) := by
  unfold slices_Equal_api_Field_api_Field
  rw [neI]
  by_cases hl : a.length = b.length
  · have e : (a.length != b.length) = false := by simp [hl]
    rw [e, bif_false, while_same a b _ hl]
    · by_cases h : a = b <;> simp [h]
    · intro n hn hb
      simp only [slices_Equal_api_Field_api_Field_L0, lt_true hn, bif_true, xnth_get hn, xnth_get hb, some_bind, wrs (show n ≤ 4 * 1073741824 by omega), fieldB]
      by_cases he : a[n] = b[n] <;> simp [he]
    · simp only [slices_Equal_api_Field_api_Field_L0, lt_false (Nat.le_refl a.length), bif_false]
  · have e : (a.length != b.length) = true := by simp [hl]
    rw [e, bif_true, decide_eq_false (fun h => hl (by rw [h]))]
theorem RSameFields_eq (a b : List GField) (ha : a.length ≤ 1073741824) : ref26_SameFields a b = some (decide (a = b)) := by
  unfold ref26_SameFields
  rw [neI]
  by_cases hl : a.length = b.length
  · have e : (a.length != b.length) = false := by simp [hl]
    rw [e, bif_false, while_same a b _ hl]
    · by_cases h : a = b <;> simp [h]
    · intro n hn hb
      simp only [ref26_SameFields_L0, lt_true hn, bif_true, xnth_get hn, xnth_get hb, some_bind, wrs (show n ≤ 4 * 1073741824 by omega), fieldB]
      by_cases he : a[n] = b[n] <;> simp [he]
    · simp only [ref26_SameFields_L0, lt_false (Nat.le_refl a.length), bif_false]
  · have e : (a.length != b.length) = true := by simp [hl]
    rw [e, bif_true, decide_eq_false (fun h => hl (by rw [h]))]
theorem KEqual_eq (a b : List (List Str)) (ha : a.length ≤ 1073741824) (hs : ∀ k ∈ a, k.length ≤ 1073741824) : slices_EqualFunc_string_string_string_string a b entry_Equal_1 = some (decide (a = b)) := by
  unfold slices_EqualFunc_string_string_string_string
  rw [neI]
  by_cases hl : a.length = b.length
  · have e : (a.length != b.length) = false := by simp [hl]
    rw [e, bif_false, while_same a b _ hl]
    · by_cases h : a = b <;> simp [h]
    · intro n hn hb
      simp only [slices_EqualFunc_string_string_string_string_L0, lt_true hn, bif_true, xnth_get hn, xnth_get hb, some_bind, wrs (show n ≤ 4 * 1073741824 by omega), entry_Equal_1, SEqual_eq _ _ (hs _ (List.getElem_mem hn))]
      by_cases he : a[n] = b[n]
      · simp [he]
      · rw [show (a[n] == b[n]) = false by simpa using he, if_neg he]; rfl
    · simp only [slices_EqualFunc_string_string_string_string_L0, lt_false (Nat.le_refl a.length), bif_false]
  · have e : (a.length != b.length) = true := by simp [hl]
    rw [e, bif_true, decide_eq_false (fun h => hl (by rw [h]))]
theorem RSameKeys_eq (a b : List (List Str)) (ha : a.length ≤ 1073741824) (hs : ∀ k ∈ a, k.length ≤ 1073741824) : ref26_SameKeys a b = some (decide (a = b)) := by
  unfold ref26_SameKeys
  rw [neI]
  by_cases hl : a.length = b.length
  · have e : (a.length != b.length) = false := by simp [hl]
    rw [e, bif_false, while_same a b _ hl]
    · by_cases h : a = b <;> simp [h]
    · intro n hn hb
      simp only [ref26_SameKeys_L0, lt_true hn, bif_true, xnth_get hn, xnth_get hb, some_bind, wrs (show n ≤ 4 * 1073741824 by omega), SameStrings10_eq _ _ (hs _ (List.getElem_mem hn))]
      by_cases he : a[n] = b[n]
      · simp [he]
      · rw [show (a[n] == b[n]) = false by simpa using he, if_neg he]; rfl
    · simp only [ref26_SameKeys_L0, lt_false (Nat.le_refl a.length), bif_false]
  · have e : (a.length != b.length) = true := by simp [hl]
    rw [e, bif_true, decide_eq_false (fun h => hl (by rw [h]))]
/-- Entries whose lists are not long. -/
def lnE (e : GEntry) : Prop := e.fKeys.length ≤ 1073741824 ∧ (∀ k ∈ e.fKeys, k.length ≤ 1073741824) ∧ e.fVary.length ≤ 1073741824 ∧ e.fSnapshot.length ≤ 1073741824 ∧ e.fFields.length ≤ 1073741824
theorem lnE_sm {e : GEntry} (h : smE e) : lnE e := by
  obtain ⟨⟨hk1, hk2⟩, hv, hs, hf, hr, hb⟩ := h
  exact ⟨by omega, fun k hk => by have := (hk2 k hk).1; omega, by have := hv.1; omega, by have := hs.1; omega, by have := hf.1; omega⟩
theorem entB (a b : GEntry) : decide (a = b) = ((((((((decide (a.fKeys = b.fKeys)) && (a.fVary == b.fVary)) && (a.fSnapshot == b.fSnapshot)) && decide (a.fFields = b.fFields)) && (a.fReason == b.fReason)) && (a.fBody == b.fBody)) && (a.fRequested == b.fRequested)) && (a.fReceived == b.fReceived)) := by
  obtain ⟨a1, a2, a3, a4, a5, a6, a7, a8⟩ := a
  obtain ⟨b1, b2, b3, b4, b5, b6, b7, b8⟩ := b
  rw [Bool.eq_iff_iff]
  simp only [decide_eq_true_eq, Bool.and_eq_true, beq_iff_eq, GEntry.mk.injEq]
  constructor
  · rintro ⟨rfl, rfl, rfl, rfl, rfl, rfl, rfl, rfl⟩; simp
  · rintro ⟨⟨⟨⟨⟨⟨⟨rfl, rfl⟩, rfl⟩, rfl⟩, rfl⟩, rfl⟩, rfl⟩, rfl⟩; simp
theorem Equal_eq (a b : GEntry) (h : lnE a) : entry_Equal a b = some (decide (a = b)) := by
  obtain ⟨h1, h2, h3, h4, h5⟩ := h
  unfold entry_Equal
  rw [KEqual_eq _ _ h1 h2, some_bind, SEqual_eq _ _ h3, some_bind, SEqual_eq _ _ h4, some_bind, FEqual_eq _ _ h5, some_bind, entB]
  cases decide (a.fKeys = b.fKeys) <;> cases a.fVary == b.fVary <;> cases a.fSnapshot == b.fSnapshot <;> rfl
theorem REqual_eq (a b : GEntry) (h : lnE a) : ref26_Equal a b = some (decide (a = b)) := by
  obtain ⟨h1, h2, h3, h4, h5⟩ := h
  unfold ref26_Equal
  rw [RSameKeys_eq _ _ h1 h2, some_bind, SameStrings10_eq _ _ h3, some_bind, SameStrings10_eq _ _ h4, some_bind, RSameFields_eq _ _ h5, some_bind, entB]
  cases decide (a.fKeys = b.fKeys) <;> cases a.fVary == b.fVary <;> cases a.fSnapshot == b.fSnapshot <;> cases a.fReason == b.fReason <;> cases decide (a.fFields = b.fFields) <;> rfl
theorem OwnEntry_eq (e : GEntry) (h : lnE e) : ref26_OwnEntry e = some e := by
  obtain ⟨h1, h2, h3, h4, h5⟩ := h
  unfold ref26_OwnEntry
  have := while_count (fun k => ((k : Int), e.fKeys.take k, e.fVary, e.fSnapshot, e.fReason, e.fFields, e.fBody, e.fRequested, e.fReceived)) e.fKeys.length (e.fKeys, e.fVary, e.fSnapshot, e.fReason, e.fFields, e.fBody, e.fRequested, e.fReceived) (ref26_OwnEntry_L0 e) ?_ ?_
  · have e0 : ((0 : Int), ([] : List (List Str)), e.fVary, e.fSnapshot, e.fReason, e.fFields, e.fBody, e.fRequested, e.fReceived) = (((0 : Nat) : Int), e.fKeys.take 0, e.fVary, e.fSnapshot, e.fReason, e.fFields, e.fBody, e.fRequested, e.fReceived) := by simp
    rw [e0, this, some_bind]
    simp only []
    rw [xapp_sm (by simp) (by omega), some_bind, xapp_sm (by simp) (by omega), some_bind, xapp_sm (by simp) (by omega), some_bind]
    rfl
  · intro k hk
    have h6 := h2 _ (List.getElem_mem hk)
    simp only [ref26_OwnEntry_L0, lt_true hk, bif_true, xnth_get hk, some_bind]
    rw [xapp_sm (by simp) (by omega), some_bind, List.nil_append, xapp_sm (by rw [List.length_take]; omega) (one_sm _), some_bind, wrs (n := k) (by omega), take_succ_get hk]
  · simp only [ref26_OwnEntry_L0, lt_false (Nat.le_refl _), bif_false, List.take_length]
theorem Remove_eq (l : List GField) (n : Str) (hl : l.length ≤ 1073741824) (hf : ∀ f ∈ l, smF f) (hn : n.length ≤ 1073741824) : fieldline_Remove l n = some (without l n) := by
  unfold fieldline_Remove fieldline_named
  rw [Lower_eq _ hn]
  simp only [some_bind]
  rw [filter_eq l _ (fun f => !fold f.fName n) hl (fun f h => by simp only [fieldline_Remove_1]; rw [named_eq n hn f (hf f h)]; rfl), some_bind]
  rfl
theorem ADecimal_eq (n : Int) (h1 : -9223372036854775808 ≤ n) (h2 : n ≤ 9223372036854775807) : ascii_Decimal n = some (Lib.itoa n) := by
  unfold ascii_Decimal strconv_Itoa
  rw [if_pos ⟨h1, h2⟩]; rfl
def viaN : Str := [86, 105, 97]
def viaF (l : List GField) (minor : Int) (name : Str) : List GField := l ++ [⟨viaN, ([49, 46] ++ Lib.itoa minor) ++ [32] ++ name⟩]
theorem itoa_len (n : Int) (h1 : -9223372036854775808 ≤ n) (h2 : n ≤ 9223372036854775807) : (Lib.itoa n).length ≤ 21 := by
  have key : ∀ (m u : Nat), u < 10 ^ m → 0 < m → (Lib.decDigits u).length ≤ m := by
    intro m
    induction m with
    | zero => intro u _ h; omega
    | succ m ih =>
      intro u hu _
      rw [Lib.decDigits]
      split
      · simp
      · rw [List.length_append]
        have : u / 10 < 10 ^ m := by rw [Nat.pow_succ] at hu; omega
        have hm : 0 < m := by
          rcases m with _ | m
          · simp at this; omega
          · omega
        have := ih (u / 10) this hm
        simp; omega
  unfold Lib.itoa
  split
  · rw [List.length_cons]
    have := key 20 n.natAbs (by omega) (by omega)
    omega
  · have := key 20 n.toNat (by omega) (by omega)
    omega
theorem Via_eq (l : List GField) (minor : Int) (name : Str) (hl : l.length ≤ 1073741824) (hn : name.length ≤ 1073741824) (h1 : -9223372036854775808 ≤ minor) (h2 : minor ≤ 9223372036854775807) : hop_Via l minor name = some (viaF l minor name) := by
  have := itoa_len minor h1 h2
  unfold hop_Via
  rw [xapp_sm (by simp) (by omega), some_bind, List.nil_append, ADecimal_eq minor h1 h2, some_bind, xcat_sm (by decide) (by omega), some_bind, xcat_sm (by rw [List.length_append, show ([49, 46] : Str).length = 2 from rfl]; omega) (by decide), some_bind,
    xcat_sm (by rw [List.length_append, List.length_append, show ([49, 46] : Str).length = 2 from rfl, show ([32] : Str).length = 1 from rfl]; omega) (by omega), some_bind, xapp_sm (by omega) (one_sm _), some_bind]
  rfl
/-- The response for an entry of an age. -/
def respS (e : GEntry) (age : Int) (name : Str) : GResponse := ⟨1, 200, e.fReason, viaF (without e.fFields ageN ++ [⟨ageN, Lib.itoa age⟩]) 1 name, e.fBody⟩
theorem respond_eq (e : GEntry) (age : Int) (name : Str) (hf : smL e.fFields) (hn : name.length ≤ 1073741824) (h1 : -9223372036854775808 ≤ age) (h2 : age ≤ 9223372036854775807) : entry_respond e age name = some (respS e age name) := by
  obtain ⟨f1, f2⟩ := smL_F hf
  have hw := (without_sm hf ageN).1
  unfold entry_respond
  rw [Remove_eq _ _ f1 f2 (by decide), some_bind, ADecimal_eq age h1 h2, some_bind]
  unfold ageN at hw
  rw [xapp_sm (by omega) (one_sm _), some_bind, Via_eq _ _ _ (by rw [List.length_append, List.length_singleton]; omega) hn (by decide) (by decide), some_bind]
  rfl
theorem ageS_bd (l : List GField) (q r n : Int) : 0 ≤ ageS l q r n ∧ ageS l q r n ≤ 2147483647 := by
  unfold ageS
  split
  · omega
  · rename_i h
    have := (ageN0_bd l q r n h).1
    exact cap_bd (by omega)
theorem EResponse_eq (e : GEntry) (now : Int) (name : Str) (hf : smL e.fFields) (hn : name.length ≤ 1073741824) : entry_Response e now name = some (respS e (ageE e now) name) := by
  have := ageS_bd e.fFields e.fRequested e.fReceived now
  unfold entry_Response
  rw [EAge_eq e now hf, some_bind, respond_eq e _ name hf hn (by unfold ageE; omega) (by unfold ageE; omega), some_bind]
theorem itoa7 : Lib.itoa 7 = [55] := by
  unfold Lib.itoa; rw [if_neg (by decide), show (7 : Int).toNat = 7 from rfl, Lib.decDigits, dif_pos (by decide)]; rfl
theorem itoa1 : Lib.itoa 1 = [49] := by
  unfold Lib.itoa; rw [if_neg (by decide), show (1 : Int).toNat = 1 from rfl, Lib.decDigits, dif_pos (by decide)]; rfl
theorem age7 : ageE (⟨([] : List (List Str)), ([] : List Str), ([] : List Str), [79, 75], ([(⟨[97, 103, 101], [50]⟩ : GField)] : List GField), [120], 0, 0⟩ : GEntry) 5 = 7 := by decide
theorem awake26 : law26_awake = some true := by
  unfold law26_awake
  rw [EResponse_eq _ _ _ ⟨by decide, by intro f hf; simp only [List.mem_singleton] at hf; subst hf; exact ⟨by decide, by decide⟩⟩ (by decide), some_bind,
    Size_eq _ ⟨⟨by decide, by intro k hk; cases hk⟩, ⟨by decide, by intro k hk; cases hk⟩, ⟨by decide, by intro k hk; cases hk⟩, ⟨by decide, by intro k hk; cases hk⟩, by decide, by decide⟩, some_bind]
  rw [age7]
  unfold respS viaF
  rw [itoa7, itoa1]
  decide
def badK (k : List Str) : Bool := !keepS k
def keepK (l : List (List Str)) : Bool := !((l.take 11).any badK) && decide (l.length ≤ 10)
theorem keep_Keys_eq (l : List (List Str)) : keep_Keys l = some (keepK l) := by
  unfold keep_Keys keepK
  rw [while_keep l 11 badK]
  · have e : decide ((l.length : Int) ≤ 10) = decide (l.length ≤ 10) := le_nat l.length 10
    rw [e]
    cases (l.take 11).any badK <;> simp
  · intro n hn hm
    have e1 : decide ((n : Int) < 11) = true := lt_true hm
    have e2 : wr ((n : Int) + 1) = (n : Int) + 1 := by rw [wrs (n := n) (by omega)]; omega
    simp only [keep_Keys_L0, lt_true hn, e1, Bool.and_self, bif_true, xnth_get hn, some_bind, e2, keep_Strings_eq]
    rw [show (!keepS l[n]) = badK l[n] from rfl]
    cases badK l[n] <;> rfl
  · intro n hn
    have : (decide ((n : Int) < (l.length : Int)) && decide ((n : Int) < 11)) = false := by
      rcases hn with h | h
      · rw [lt_false h]; rfl
      · rw [show decide ((n : Int) < 11) = false from lt_false h]; simp
    simp only [keep_Keys_L0, this, bif_false]
def keepE (e : GEntry) : Bool := ((((keepK e.fKeys && keepS e.fVary) && keepS e.fSnapshot) && decide (e.fReason.length ≤ 100)) && decide (e.fBody.length ≤ 2000)) && keepF e.fFields
theorem keep_Entry_eq (e : GEntry) : keep_Entry e = some (keepE e) := by
  unfold keep_Entry keepE
  rw [keep_Keys_eq, some_bind, keep_Strings_eq, some_bind, keep_Strings_eq, some_bind, keep_Fields_eq, some_bind, show ((100 : Int)) = ((100 : Nat) : Int) from rfl, show ((2000 : Int)) = ((2000 : Nat) : Int) from rfl, le_nat, le_nat]
  cases keepK e.fKeys <;> cases keepS e.fVary <;> cases keepS e.fSnapshot <;> cases decide (e.fReason.length ≤ 100) <;> cases decide (e.fBody.length ≤ 2000) <;> rfl
theorem keepE_sm {e : GEntry} (h : keepE e = true) : smE e := by
  simp only [keepE, keepK, Bool.and_eq_true, decide_eq_true_eq, Bool.not_eq_true', List.any_eq_false] at h
  obtain ⟨⟨⟨⟨⟨⟨k1, k2⟩, v⟩, s⟩, r⟩, b⟩, f⟩ := h
  have hS : ∀ l, keepS l = true → smS l := fun l hl => by
    have := keepS_sm hl
    exact ⟨by omega, fun x hx => by have := this.2 x hx; omega⟩
  refine ⟨⟨k2, fun k hk => hS k ?_⟩, hS _ v, hS _ s, keepF_sm f, r, b⟩
  have := k1 k (by rw [List.take_of_length_le (by omega)]; exact hk)
  simpa [badK] using this
theorem EntrySizes_true (e f : GEntry) (now : Int) : law26_EntrySizes e f now = some true := by
  unfold law26_EntrySizes
  rw [keep_Entry_eq, some_bind, keep_Entry_eq, some_bind]
  cases he : keepE e with
  | false => rfl
  | true =>
    cases hf : keepE f with
    | false => rfl
    | true =>
      have hs := keepE_sm he
      have hl := lnE_sm hs
      rw [Size_eq e hs, RSize_eq e hs, EAge_eq e now hs.2.2.2.1, REAge_eq e now hs.2.2.2.1, Equal_eq _ _ hl, REqual_eq _ _ hl, OwnEntry_eq e hl]
      simp only [some_bind, Equal_eq _ _ hl, awake26]
      simp
end Go.Eng.Pure
