/- A part of the proof of laws of the seat. -/
import Derived.Test.YtogfdiigokidaaaGreatDoorStorP
namespace Go.Eng
theorem while_sum {α ρ : Type} (l : List α) (g : α → Nat) (G a : Nat) (fin : Int → ρ) (body : (Int × Int) → Option ((Int × Int) ⊕ ρ)) (hG : ∀ x ∈ l, g x ≤ G)
    (h : ∀ k (hk : k < l.length) (n : Nat), n ≤ a + k * G → body ((n : Int), (k : Int)) = some (.inl (((n + g l[k] : Nat) : Int), ((k + 1 : Nat) : Int))))
    (h' : ∀ n : Int, body (n, (l.length : Int)) = some (.inr (fin n))) : whileO body ((a : Int), 0) = some (fin ((a + (l.map g).sum : Nat) : Int)) := by
  have hb : ∀ k, k ≤ l.length → ((l.take k).map g).sum ≤ k * G := by
    intro k hk
    induction k with
    | zero => simp
    | succ k ih =>
      rw [take_succ_get (by omega), List.map_append, List.sum_append, Nat.succ_mul]
      have := ih (by omega)
      have := hG l[k] (List.getElem_mem (by omega))
      simp only [List.map_cons, List.map_nil, List.sum_cons, List.sum_nil]
      omega
  have := while_count (fun k => (((a + ((l.take k).map g).sum : Nat) : Int), (k : Int))) l.length (fin ((a + (l.map g).sum : Nat) : Int)) body ?_ ?_
  · simpa using this
  · intro k hk
    rw [h k hk _ (by have := hb k (by omega); omega)]
    rw [take_succ_get hk, List.map_append, List.sum_append]
    simp only [List.map_cons, List.map_nil, List.sum_cons, List.sum_nil, Nat.add_zero, Nat.add_assoc]
  · rw [h', List.take_length]
end Go.Eng
namespace Go.Eng.Pure
open Go Go.Eng
set_option linter.unusedVariables false
theorem wr4 {b : Nat} (h : 4 + b ≤ 4 * 1073741824) : wr (4 + (b : Int)) = ((4 + b : Nat) : Int) := by rw [← wrn h]; congr 1
theorem wr100 {b : Nat} (h : 100 + b ≤ 4 * 1073741824) : wr (100 + (b : Int)) = ((100 + b : Nat) : Int) := by rw [← wrn h]; congr 1
theorem wra {a b : Nat} (h : a + b ≤ 4 * 1073741824) : wr ((a : Int) + (b : Int)) = ((a + b : Nat) : Int) := by rw [← wrn h]; congr 1
def lensS (l : List Str) : Nat := (l.map fun s => 4 + s.length).sum
theorem lens_bd (l : List Str) (N B : Nat) (h1 : l.length ≤ N) (h2 : ∀ s ∈ l, s.length ≤ B) : lensS l ≤ N * (4 + B) := by
  have : lensS l ≤ l.length * (4 + B) := by
    clear h1
    induction l with
    | nil => simp [lensS]
    | cons x l ih =>
      have h3 := ih (fun s hs => h2 s (List.mem_cons_of_mem _ hs))
      have h4 := h2 x List.mem_cons_self
      unfold lensS at h3 ⊢
      simp only [List.map_cons, List.sum_cons, List.length_cons, Nat.succ_mul]
      omega
  exact Nat.le_trans this (Nat.mul_le_mul_right _ h1)
def smS (l : List Str) : Prop := l.length ≤ 1000 ∧ ∀ s ∈ l, s.length ≤ 1000
theorem lengths_eq (l : List Str) (h : smS l) : entry_lengths l = some (lensS l : Int) := by
  unfold entry_lengths lensS
  rw [show (0 : Int) = ((0 : Nat) : Int) from rfl, show (((0 : Nat) : Int), ((0 : Nat) : Int)) = (((0 : Nat) : Int), (0 : Int)) from rfl, while_sum l (fun s => 4 + s.length) 1004 0 (fun n => n) _ (fun s hs => by have := h.2 s hs; omega)]
  · simp
  · intro k hk n hn
    have h1 := h.1
    have h2 := h.2 l[k] (List.getElem_mem hk)
    have hn' : n ≤ 2000000 := by have : k * 1004 ≤ 1000 * 1004 := Nat.mul_le_mul_right _ (by omega); omega
    simp only [entry_lengths_L0, lt_true hk, bif_true, xnth_get hk, some_bind]
    rw [wr4 (b := l[k].length) (by omega), wra (a := n) (b := 4 + l[k].length) (by omega), wrs (n := k) (by omega)]
  · intro n
    simp only [entry_lengths_L0, lt_false (Nat.le_refl _), bif_false]
def smE (e : GEntry) : Prop := (e.fKeys.length ≤ 10 ∧ ∀ k ∈ e.fKeys, smS k) ∧ smS e.fVary ∧ smS e.fSnapshot ∧ smL e.fFields ∧ e.fReason.length ≤ 100 ∧ e.fBody.length ≤ 2000
def fldsS (l : List GField) : Nat := (l.map fun f => 4 + f.fName.length + f.fValue.length).sum
def keysS (l : List (List Str)) : Nat := (l.map lensS).sum
def sizeS (e : GEntry) : Nat := 100 + e.fReason.length + e.fBody.length + lensS e.fVary + lensS e.fSnapshot + fldsS e.fFields + keysS e.fKeys
theorem lens_sm {l : List Str} (h : smS l) : lensS l ≤ 1004000 := lens_bd l 1000 1000 h.1 h.2
theorem flds_bd {l : List GField} (h : smL l) : fldsS l ≤ 70 * 604 := by
  have : fldsS l ≤ l.length * 604 := by
    have h2 := h.2
    clear h
    induction l with
    | nil => simp [fldsS]
    | cons x l ih =>
      have h3 := ih (fun s hs => h2 s (List.mem_cons_of_mem _ hs))
      have h4 := h2 x List.mem_cons_self
      unfold fldsS at h3 ⊢
      simp only [List.map_cons, List.sum_cons, List.length_cons, Nat.succ_mul]
      omega
  exact Nat.le_trans this (Nat.mul_le_mul_right _ h.1)
theorem keys_bd {l : List (List Str)} (h1 : l.length ≤ 10) (h2 : ∀ k ∈ l, smS k) : keysS l ≤ 10 * 1004000 := by
  have : keysS l ≤ l.length * 1004000 := by
    clear h1
    induction l with
    | nil => simp [keysS]
    | cons x l ih =>
      have h3 := ih (fun s hs => h2 s (List.mem_cons_of_mem _ hs))
      have h4 := lens_sm (h2 x List.mem_cons_self)
      unfold keysS at h3 ⊢
      simp only [List.map_cons, List.sum_cons, List.length_cons, Nat.succ_mul]
      omega
  exact Nat.le_trans this (Nat.mul_le_mul_right _ h1)
theorem Size_eq (e : GEntry) (h : smE e) : entry_Size e = some (sizeS e : Int) := by
  obtain ⟨⟨hk1, hk2⟩, hv, hs, hf, hr, hb⟩ := h
  unfold entry_Size sizeS
  have b1 := lens_sm hv; have b2 := lens_sm hs; have b3 := flds_bd hf; have b4 := keys_bd hk1 hk2
  rw [lengths_eq _ hv, some_bind, lengths_eq _ hs, some_bind,
    wr100 (b := e.fReason.length) (by omega), wra (a := 100 + e.fReason.length) (b := e.fBody.length) (by omega), wra (a := 100 + e.fReason.length + e.fBody.length) (b := lensS e.fVary) (by omega),
    wra (a := 100 + e.fReason.length + e.fBody.length + lensS e.fVary) (b := lensS e.fSnapshot) (by omega)]
  have ha : 100 + e.fReason.length + e.fBody.length + lensS e.fVary + lensS e.fSnapshot ≤ 3000000 := by omega
  generalize 100 + e.fReason.length + e.fBody.length + lensS e.fVary + lensS e.fSnapshot = a at *
  rw [while_sum e.fFields (fun f => 4 + f.fName.length + f.fValue.length) 604 a (fun n => n) _ (fun f hm => by have := hf.2 f hm; omega)]
  · rw [some_bind]
    show (whileO (entry_Size_L1 e) (((a + fldsS e.fFields : Nat) : Int), 0)).bind _ = _
    rw [while_sum e.fKeys lensS 1004000 (a + fldsS e.fFields) (fun n => n) _ (fun k hm => lens_sm (hk2 k hm))]
    · rfl
    · intro k hk n hn
      have h2 := lens_sm (hk2 e.fKeys[k] (List.getElem_mem hk))
      have hn' : n ≤ 20000000 := by have : k * 1004000 ≤ 10 * 1004000 := Nat.mul_le_mul_right _ (by omega); omega
      simp only [entry_Size_L1, lt_true hk, bif_true, xnth_get hk, some_bind, lengths_eq _ (hk2 e.fKeys[k] (List.getElem_mem hk))]
      rw [wra (a := n) (b := lensS e.fKeys[k]) (by omega), wrs (n := k) (by omega)]
    · intro n
      simp only [entry_Size_L1, lt_false (Nat.le_refl _), bif_false]
  · intro k hk n hn
    have h1 := hf.1
    have h2 := hf.2 e.fFields[k] (List.getElem_mem hk)
    have hn' : n ≤ 4000000 := by have : k * 604 ≤ 70 * 604 := Nat.mul_le_mul_right _ (by omega); omega
    simp only [entry_Size_L0, lt_true hk, bif_true, xnth_get hk, some_bind]
    rw [wr4 (b := e.fFields[k].fName.length) (by omega), wra (a := 4 + e.fFields[k].fName.length) (b := e.fFields[k].fValue.length) (by omega), wra (a := n) (b := 4 + e.fFields[k].fName.length + e.fFields[k].fValue.length) (by omega), wrs (n := k) (by omega)]
  · intro n
    simp only [entry_Size_L0, lt_false (Nat.le_refl _), bif_false]
def ageE (e : GEntry) (now : Int) : Int := ageS e.fFields e.fRequested e.fReceived now
theorem EAge_eq (e : GEntry) (now : Int) (hf : smL e.fFields) : entry_Age e now = some (ageE e now) := by
  unfold entry_Age
  obtain ⟨h1, h2⟩ := smL_F hf
  rw [Age_eq _ h1 h2, some_bind]; rfl
theorem fieldB (a b : GField) : (!((a.fName == b.fName) && ((a.fValue == b.fValue) && true))) = !decide (a = b) := by
  obtain ⟨n, v⟩ := a; obtain ⟨n', v'⟩ := b
  rw [Bool.and_true]
  congr 1
  rw [Bool.eq_iff_iff]
  simp
theorem RSameFields_eq (a b : List GField) (ha : a.length ≤ 1073741824) : ref26_SameFields a b = some (decide (a = b)) := by
  unfold ref26_SameFields
  rw [neI]
  by_cases hl : a.length = b.length
  · have e : (a.length != b.length) = false := by simp [hl]
    rw [e, bif_false, while_same a b _ hl]
    · by_cases h : a = b <;> simp [h]
    · intro n hn hb
      simp only [ref26_SameFields_L0, lt_true hn, bif_true, xnth_get hn, xnth_get hb, some_bind, wrs (show n ≤ 4 * 1073741824 by omega), fieldB]
      by_cases he : a[n] = b[n] <;> simp [he]
    · simp only [ref26_SameFields_L0, lt_false (Nat.le_refl a.length), bif_false]
  · have e : (a.length != b.length) = true := by simp [hl]
    rw [e, bif_true, decide_eq_false (fun h => hl (by rw [h]))]
theorem RSameKeys_eq (a b : List (List Str)) (ha : a.length ≤ 1073741824) (hs : ∀ k ∈ a, k.length ≤ 1073741824) : ref26_SameKeys a b = some (decide (a = b)) := by
  unfold ref26_SameKeys
  rw [neI]
  by_cases hl : a.length = b.length
  · have e : (a.length != b.length) = false := by simp [hl]
    rw [e, bif_false, while_same a b _ hl]
    · by_cases h : a = b <;> simp [h]
    · intro n hn hb
      simp only [ref26_SameKeys_L0, lt_true hn, bif_true, xnth_get hn, xnth_get hb, some_bind, wrs (show n ≤ 4 * 1073741824 by omega), SameStrings10_eq _ _ (hs _ (List.getElem_mem hn))]
      by_cases he : a[n] = b[n]
      · simp [he]
      · rw [show (a[n] == b[n]) = false by simpa using he, if_neg he]; rfl
    · simp only [ref26_SameKeys_L0, lt_false (Nat.le_refl a.length), bif_false]
  · have e : (a.length != b.length) = true := by simp [hl]
    rw [e, bif_true, decide_eq_false (fun h => hl (by rw [h]))]
def lnE (e : GEntry) : Prop := e.fKeys.length ≤ 1073741824 ∧ (∀ k ∈ e.fKeys, k.length ≤ 1073741824) ∧ e.fVary.length ≤ 1073741824 ∧ e.fSnapshot.length ≤ 1073741824 ∧ e.fFields.length ≤ 1073741824
theorem entB (a b : GEntry) : decide (a = b) = ((((((((decide (a.fKeys = b.fKeys)) && (a.fVary == b.fVary)) && (a.fSnapshot == b.fSnapshot)) && decide (a.fFields = b.fFields)) && (a.fReason == b.fReason)) && (a.fBody == b.fBody)) && (a.fRequested == b.fRequested)) && (a.fReceived == b.fReceived)) := by
  obtain ⟨a1, a2, a3, a4, a5, a6, a7, a8⟩ := a
  obtain ⟨b1, b2, b3, b4, b5, b6, b7, b8⟩ := b
  rw [Bool.eq_iff_iff]
  simp only [decide_eq_true_eq, Bool.and_eq_true, beq_iff_eq, GEntry.mk.injEq]
  constructor
  · rintro ⟨rfl, rfl, rfl, rfl, rfl, rfl, rfl, rfl⟩; simp
  · rintro ⟨⟨⟨⟨⟨⟨⟨rfl, rfl⟩, rfl⟩, rfl⟩, rfl⟩, rfl⟩, rfl⟩, rfl⟩; simp
theorem REqual_eq (a b : GEntry) (h : lnE a) : ref26_Equal a b = some (decide (a = b)) := by
  obtain ⟨h1, h2, h3, h4, h5⟩ := h
  unfold ref26_Equal
  rw [RSameKeys_eq _ _ h1 h2, some_bind, SameStrings10_eq _ _ h3, some_bind, SameStrings10_eq _ _ h4, some_bind, RSameFields_eq _ _ h5, some_bind, entB]
  cases decide (a.fKeys = b.fKeys) <;> cases a.fVary == b.fVary <;> cases a.fSnapshot == b.fSnapshot <;> cases a.fReason == b.fReason <;> cases decide (a.fFields = b.fFields) <;> rfl
theorem Remove_eq (l : List GField) (n : Str) (hl : l.length ≤ 1073741824) (hf : ∀ f ∈ l, smF f) (hn : n.length ≤ 1073741824) : fieldline_Remove l n = some (without l n) := by
  unfold fieldline_Remove fieldline_named
  rw [Lower_eq _ hn]
  simp only [some_bind]
  rw [filter_eq l _ (fun f => !fold f.fName n) hl (fun f h => by simp only [fieldline_Remove_1]; rw [named_eq n hn f (hf f h)]; rfl), some_bind]
  rfl
theorem ADecimal_eq (n : Int) (h1 : -9223372036854775808 ≤ n) (h2 : n ≤ 9223372036854775807) : ascii_Decimal n = some (Lib.itoa n) := by
  unfold ascii_Decimal strconv_Itoa
  rw [if_pos ⟨h1, h2⟩]; rfl
def viaN : Str := [86, 105, 97]
def viaF (l : List GField) (minor : Int) (name : Str) : List GField := l ++ [⟨viaN, ([49, 46] ++ Lib.itoa minor) ++ [32] ++ name⟩]
theorem itoa_len (n : Int) (h1 : -9223372036854775808 ≤ n) (h2 : n ≤ 9223372036854775807) : (Lib.itoa n).length ≤ 21 := by
  have key : ∀ (m u : Nat), u < 10 ^ m → 0 < m → (Lib.decDigits u).length ≤ m := by
    intro m
    induction m with
    | zero => intro u _ h; omega
    | succ m ih =>
      intro u hu _
      rw [Lib.decDigits]
      split
      · simp
      · rw [List.length_append]
        have : u / 10 < 10 ^ m := by rw [Nat.pow_succ] at hu; omega
        have hm : 0 < m := by
          rcases m with _ | m
          · simp at this; omega
          · omega
        have := ih (u / 10) this hm
        simp; omega
  unfold Lib.itoa
  split
  · rw [List.length_cons]
    have := key 20 n.natAbs (by omega) (by omega)
    omega
  · have := key 20 n.toNat (by omega) (by omega)
    omega
theorem Via_eq (l : List GField) (minor : Int) (name : Str) (hl : l.length ≤ 1073741824) (hn : name.length ≤ 1073741824) (h1 : -9223372036854775808 ≤ minor) (h2 : minor ≤ 9223372036854775807) : hop_Via l minor name = some (viaF l minor name) := by
  have := itoa_len minor h1 h2
  unfold hop_Via
  rw [xapp_sm (by simp) (by omega), some_bind, List.nil_append, ADecimal_eq minor h1 h2, some_bind, xcat_sm (by decide) (by omega), some_bind, xcat_sm (by rw [List.length_append, show ([49, 46] : Str).length = 2 from rfl]; omega) (by decide), some_bind,
    xcat_sm (by rw [List.length_append, List.length_append, show ([49, 46] : Str).length = 2 from rfl, show ([32] : Str).length = 1 from rfl]; omega) (by omega), some_bind, xapp_sm (by omega) (one_sm _), some_bind]
  rfl
def respS (e : GEntry) (age : Int) (name : Str) : GResponse := ⟨1, 200, e.fReason, viaF (without e.fFields ageN ++ [⟨ageN, Lib.itoa age⟩]) 1 name, e.fBody⟩
theorem respond_eq (e : GEntry) (age : Int) (name : Str) (hf : smL e.fFields) (hn : name.length ≤ 1073741824) (h1 : -9223372036854775808 ≤ age) (h2 : age ≤ 9223372036854775807) : entry_respond e age name = some (respS e age name) := by
  obtain ⟨f1, f2⟩ := smL_F hf
  have hw := (without_sm hf ageN).1
  unfold entry_respond
  rw [Remove_eq _ _ f1 f2 (by decide), some_bind, ADecimal_eq age h1 h2, some_bind]
  unfold ageN at hw
  rw [xapp_sm (by omega) (one_sm _), some_bind, Via_eq _ _ _ (by rw [List.length_append, List.length_singleton]; omega) hn (by decide) (by decide), some_bind]
  rfl
theorem ageS_bd (l : List GField) (q r n : Int) : 0 ≤ ageS l q r n ∧ ageS l q r n ≤ 2147483647 := by
  unfold ageS
  split
  · omega
  · rename_i h
    have := (ageN0_bd l q r n h).1
    exact cap_bd (by omega)
theorem EResponse_eq (e : GEntry) (now : Int) (name : Str) (hf : smL e.fFields) (hn : name.length ≤ 1073741824) : entry_Response e now name = some (respS e (ageE e now) name) := by
  have := ageS_bd e.fFields e.fRequested e.fReceived now
  unfold entry_Response
  rw [EAge_eq e now hf, some_bind, respond_eq e _ name hf hn (by unfold ageE; omega) (by unfold ageE; omega), some_bind]
theorem itoa7 : Lib.itoa 7 = [55] := by
  unfold Lib.itoa; rw [if_neg (by decide), show (7 : Int).toNat = 7 from rfl, Lib.decDigits, dif_pos (by decide)]; rfl
theorem itoa1 : Lib.itoa 1 = [49] := by
  unfold Lib.itoa; rw [if_neg (by decide), show (1 : Int).toNat = 1 from rfl, Lib.decDigits, dif_pos (by decide)]; rfl
theorem age7 : ageE (⟨([] : List (List Str)), ([] : List Str), ([] : List Str), [79, 75], ([(⟨[97, 103, 101], [50]⟩ : GField)] : List GField), [120], 0, 0⟩ : GEntry) 5 = 7 := by decide
theorem awake26 : law26_awake = some true := by
  unfold law26_awake
  rw [EResponse_eq _ _ _ ⟨by decide, by intro f hf; simp only [List.mem_singleton] at hf; subst hf; exact ⟨by decide, by decide⟩⟩ (by decide), some_bind,
    Size_eq _ ⟨⟨by decide, by intro k hk; cases hk⟩, ⟨by decide, by intro k hk; cases hk⟩, ⟨by decide, by intro k hk; cases hk⟩, ⟨by decide, by intro k hk; cases hk⟩, by decide, by decide⟩, some_bind]
  rw [age7]
  unfold respS viaF
  rw [itoa7, itoa1]
  decide
end Go.Eng.Pure
namespace Go.Eng.Pure
open Go Go.Eng
set_option linter.unusedVariables false
theorem ixB (c : UInt8) (b : Str) : ∀ a : Str, (∀ x ∈ a, x ≠ c) → Lib.indexByte (a ++ c :: b) c = (a.length : Int)
  | [], _ => by simp [Lib.indexByte]
  | x :: a, h => by
    have h1 : (x == c) = false := by simpa using h x List.mem_cons_self
    have h2 := ixB c b a (fun y hy => h y (List.mem_cons_of_mem _ hy))
    rw [List.cons_append, Lib.indexByte, h2, h1, List.length_cons]
    rw [show (((a.length : Int) == -1) : Bool) = false by rw [beq_eq_false_iff_ne]; omega]
    simp
end Go.Eng.Pure
namespace Go.Eng.Pure
open Go Go.Eng
set_option linter.unusedVariables false
def splitC (c : UInt8) : Str → List Str
  | [] => [[]]
  | x :: s => if x = c then [] :: splitC c s else match splitC c s with | y :: ys => (x :: y) :: ys | [] => [[x]]
theorem splitC_ne (c : UInt8) : ∀ s, splitC c s ≠ []
  | [] => by simp [splitC]
  | x :: s => by
    unfold splitC
    split
    · simp
    · split <;> simp
theorem splitC_none {c : UInt8} : ∀ {s : Str}, c ∉ s → splitC c s = [s]
  | [], _ => rfl
  | x :: s, h => by
    have h1 : ¬ x = c := fun e => h (by rw [e]; exact List.mem_cons_self)
    have h2 : c ∉ s := fun e => h (List.mem_cons_of_mem _ e)
    unfold splitC
    rw [if_neg h1, splitC_none h2]
theorem splitC_app {c : UInt8} (b : Str) : ∀ {a : Str}, c ∉ a → splitC c (a ++ c :: b) = a :: splitC c b
  | [], _ => by rw [List.nil_append, splitC, if_pos rfl]
  | x :: a, h => by
    have h1 : ¬ x = c := fun e => h (by rw [e]; exact List.mem_cons_self)
    have h2 : c ∉ a := fun e => h (List.mem_cons_of_mem _ e)
    rw [List.cons_append, splitC, if_neg h1, splitC_app b h2]
theorem first_cut {c : UInt8} {s : Str} (h : c ∈ s) : ∃ a b, s = a ++ c :: b ∧ c ∉ a := by
  induction s with
  | nil => cases h
  | cons x s ih =>
    by_cases hx : x = c
    · exact ⟨[], s, by rw [hx]; rfl, by simp⟩
    · have : c ∈ s := by
        rcases List.mem_cons.1 h with h | h
        · exact absurd h.symm hx
        · exact h
      obtain ⟨a, b, e, ha⟩ := ih this
      refine ⟨x :: a, b, by rw [e]; rfl, ?_⟩
      intro hm
      rcases List.mem_cons.1 hm with hm | hm
      · exact hx hm.symm
      · exact ha hm
theorem ixB_none (c : UInt8) : ∀ a : Str, c ∉ a → Lib.indexByte a c = -1
  | [], _ => rfl
  | x :: a, h => by
    have h1 : (x == c) = false := by
      rw [beq_eq_false_iff_ne]; exact fun e => h (by rw [e]; exact List.mem_cons_self)
    have h2 := ixB_none c a (fun e => h (List.mem_cons_of_mem _ e))
    rw [Lib.indexByte, h2, h1]; rfl
theorem SIndex_eq (s : Str) (c : UInt8) : strings_Index s [c] = some (Lib.indexByte s c) := by
  unfold strings_Index stringslite_Index strings_IndexByte; rfl
theorem splitC_len (c : UInt8) : ∀ s : Str, (splitC c s).length = s.count c + 1
  | [] => rfl
  | x :: s => by
    have ih := splitC_len c s
    unfold splitC
    by_cases hx : x = c
    · rw [if_pos hx, List.length_cons, ih, hx, List.count_cons_self]
    · rw [if_neg hx, List.count_cons_of_ne (by exact fun e => hx e)]
      cases hs : splitC c s with
      | nil => exact absurd hs (splitC_ne c s)
      | cons y ys => rw [hs] at ih; simpa using ih
theorem Split_loopC (c : UInt8) (n : Int) (N : Nat) (s0 : Str) (hn : (wr ((if (wr ((s0.length : Int) + 1)) < n then (wr ((s0.length : Int) + 1)) else n) - 1)) = (N : Int)) (hN : N ≤ 1000000) :
    ∀ (j : Nat) (t : Str) (k : Nat) (m : List Str), t.count c = j → t.length ≤ 1073741824 → k + j = N → m.length = N + 1 →
      whileO (strings_genSplit_L0 s0 [c] 0 n) (t, (k : Int), m) = some ((splitC c t).getLast (splitC_ne c t), (N : Int), m.take k ++ (splitC c t).dropLast ++ m.drop N) := by
  intro j
  induction j with
  | zero =>
    intro t k m hc ht hk hm
    have hnm : c ∉ t := fun h => by have := List.count_pos_iff.2 h; omega
    have hk' : k = N := by omega
    subst hk'
    have hb : strings_genSplit_L0 s0 [c] 0 n (t, (k : Int), m) = some (.inr (t, (k : Int), m)) := by
      unfold strings_genSplit_L0
      simp only []
      rw [hn, lt_false (Nat.le_refl _), bif_false]
    rw [whileO_done hb]
    simp only [splitC_none hnm]
    simp
  | succ j ih =>
    intro t k m hc ht hk hm
    have hm0 : c ∈ t := List.count_pos_iff.1 (by omega)
    obtain ⟨a, b, e, ha⟩ := first_cut hm0
    have hix : Lib.indexByte t c = (a.length : Int) := by rw [e]; exact ixB c b a (fun x hx e => ha (e ▸ hx))
    have hlt : t.length = a.length + 1 + b.length := by rw [e, List.length_append, List.length_cons]; omega
    have hcb : b.count c = j := by
      rw [e, List.count_append, List.count_cons_self, List.count_eq_zero.2 ha] at hc; omega
    have hkm : k < m.length := by omega
    have hput : xput m (k : Int) a = some (m.set k a) := by unfold xput; rw [if_pos ⟨by omega, by omega⟩, Int.toNat_natCast]
    have hsub : xsub t (((a.length + 1 : Nat) : Int)) (t.length : Int) = some b := by
      rw [xsub_from (by omega), e, List.drop_append]; simp
    have hto : xsub t 0 (a.length : Int) = some a := by
      rw [xsub_to (by omega), e, List.take_left']; rfl
    have hb : strings_genSplit_L0 s0 [c] 0 n (t, (k : Int), m) = some (.inl (b, ((k + 1 : Nat) : Int), m.set k a)) := by
      unfold strings_genSplit_L0
      simp only []
      rw [hn, lt_true (show k < N by omega), bif_true, SIndex_eq, some_bind, hix, show decide ((a.length : Int) < 0) = false from decide_eq_false (by omega), bif_false,
        show wr ((a.length : Int) + 0) = (a.length : Int) by rw [Int.add_zero, wrn (by omega)], hto, some_bind, xnth_get hkm, some_bind, hput, some_bind,
        show ((([c] : Str).length : Nat) : Int) = 1 from rfl, wrs (by omega), hsub, some_bind, wrs (by omega)]
    rw [whileO_next hb, ih b (k + 1) (m.set k a) hcb (by omega) (by omega) (by rw [List.length_set, hm])]
    have hsp : splitC c t = a :: splitC c b := by rw [e]; exact splitC_app b ha
    have hl : (splitC c t).getLast (splitC_ne c t) = (splitC c b).getLast (splitC_ne c b) := by
      simp only [hsp, List.getLast_cons (splitC_ne c b)]
    have hd : (splitC c t).dropLast = a :: (splitC c b).dropLast := by
      rw [hsp, List.dropLast_cons_of_ne_nil (splitC_ne c b)]
    rw [hl, hd]
    congr 3
    have e1 : (m.set k a).take (k + 1) = m.take k ++ [a] := by
      rw [take_succ_get (by rw [List.length_set]; exact hkm), List.take_set_of_le (Nat.le_refl k), List.getElem_set_self]
    have e2 : (m.set k a).drop N = m.drop N := List.drop_set_of_lt (by omega)
    rw [e1, e2, List.append_assoc, List.append_assoc, List.append_assoc]
    rfl
theorem set_last {α : Type} (l : List α) (x y : α) : (l ++ [x]).set l.length y = l ++ [y] := by induction l <;> simp [*]
theorem Split_eqC (s : Str) (c : UInt8) (hs : s.length ≤ 1000000) : strings_Split s [c] = some (splitC c s) := by
  have hcl : s.count c ≤ s.length := List.count_le_length
  have hcnt : strings_Count s [c] = some ((s.count c : Nat) : Int) := by
    unfold strings_Count
    rw [show ((([c] : Str).length : Int) == 0) = false from rfl, bif_false, show ((([c] : Str).length : Int) == 1) = true from rfl, bif_true, show xnth [c] 0 = some c from rfl, some_bind]
  unfold strings_Split strings_genSplit
  rw [show ((-1 : Int) == 0) = false from rfl, bif_false, show ((([c] : Str) == []) : Bool) = false from rfl, bif_false, show decide ((-1 : Int) < 0) = true from rfl, bif_true, hcnt, some_bind, some_bind, wrs (n := s.count c) (by omega)]
  have hmin : (if wr ((s.length : Int) + 1) < ((s.count c + 1 : Nat) : Int) then wr ((s.length : Int) + 1) else ((s.count c + 1 : Nat) : Int)) = ((s.count c + 1 : Nat) : Int) := by
    rw [wrs (by omega), if_neg (by omega)]
  have hmk : xmake ((s.count c + 1 : Nat) : Int) ([] : Str) = some (List.replicate (s.count c + 1) []) := by
    unfold xmake; rw [if_pos ⟨by omega, by omega⟩, Int.toNat_natCast]
  rw [hmin, hmk, some_bind]
  have hN : wr ((if wr ((s.length : Int) + 1) < ((s.count c + 1 : Nat) : Int) then wr ((s.length : Int) + 1) else ((s.count c + 1 : Nat) : Int)) - 1) = ((s.count c : Nat) : Int) := by
    rw [hmin, show ((s.count c + 1 : Nat) : Int) - 1 = ((s.count c : Nat) : Int) by omega, wrn (by omega)]
  have hl := Split_loopC c _ _ s hN (by omega) _ s 0 (List.replicate (s.count c + 1) []) rfl (by omega) (by omega) (by rw [List.length_replicate])
  rw [show ((0 : Nat) : Int) = 0 from rfl] at hl
  rw [hl, some_bind]
  simp only []
  have hlen := splitC_len c s
  have hdl : (splitC c s).dropLast.length = s.count c := by rw [List.length_dropLast, hlen]; omega
  have hm : ((List.replicate (s.count c + 1) ([] : Str)).take 0 ++ (splitC c s).dropLast ++ (List.replicate (s.count c + 1) []).drop (s.count c)) = (splitC c s).dropLast ++ [[]] := by
    rw [List.take_zero, List.nil_append, List.drop_replicate, show s.count c + 1 - s.count c = 1 by omega]; rfl
  rw [hm]
  have hx : xnth ((splitC c s).dropLast ++ [[]]) ((s.count c : Nat) : Int) = some [] := by rw [← hdl]; exact xnth_last _ _
  have hp : xput ((splitC c s).dropLast ++ [[]]) ((s.count c : Nat) : Int) ((splitC c s).getLast (splitC_ne c s)) = some (splitC c s) := by
    unfold xput
    rw [if_pos ⟨by omega, by rw [List.length_append, hdl, List.length_singleton]; omega⟩, Int.toNat_natCast, ← hdl, set_last, List.dropLast_concat_getLast]
  rw [hx, some_bind, hp, some_bind, wrs (n := s.count c) (by omega), xsub_to (by omega), some_bind, some_bind, List.take_of_length_le (by omega)]
theorem subtags_loop : ∀ (n : Nat) (s : Str) (out : List Str), s.length ≤ n → n ≤ 1000000 → out.length + n ≤ 2000000 → whileO ref10_subtags_L0 (s, out) = some (out ++ splitC 45 s)
  | n, s, out, h, hn, ho => by
    have hix := Etag.Index_eq s 45 (by omega) s.length 0 (by omega)
    rw [List.drop_zero, show ((0 : Nat) : Int) = 0 from rfl] at hix
    by_cases hm : (45 : UInt8) ∈ s
    · obtain ⟨a, b, e, ha⟩ := first_cut hm
      have hidx : s.idxOf 45 = a.length := by rw [e, List.idxOf_append, if_neg ha]; simp
      rw [if_pos hm, hidx, Nat.zero_add] at hix
      have hl : s.length = a.length + 1 + b.length := by rw [e, List.length_append, List.length_cons]; omega
      have hb : ref10_subtags_L0 (s, out) = some (.inl (b, out ++ [a])) := by
        unfold ref10_subtags_L0
        simp only []
        rw [hix, some_bind, show decide ((a.length : Int) < 0) = false from decide_eq_false (by omega), bif_false, xsub_to (by omega), some_bind, wrs (by omega), xsub_from (by omega), some_bind, xapp_sm (by omega) (one_sm _), some_bind]
        rw [e, List.take_left' rfl, List.drop_append]
        simp
      match n, h with
      | n + 1, h =>
        rw [whileO_next hb, subtags_loop n b (out ++ [a]) (by omega) (by omega) (by rw [List.length_append, List.length_singleton]; omega), e, splitC_app b ha, List.append_assoc]
        rfl
      | 0, h => omega
    · rw [if_neg hm] at hix
      have hb : ref10_subtags_L0 (s, out) = some (.inr (out ++ [s])) := by
        unfold ref10_subtags_L0
        simp only []
        rw [hix, some_bind, show decide ((-1 : Int) < 0) = true from rfl, bif_true, xapp_sm (by omega) (one_sm _), some_bind]
      rw [whileO_done hb, splitC_none hm]
theorem subtags_eq (s : Str) (hs : s.length ≤ 1000000) : ref10_subtags s = some (splitC 45 s) := by
  unfold ref10_subtags
  rw [subtags_loop s.length s [] (Nat.le_refl _) hs (by simp; omega), some_bind, List.nil_append]
theorem splitC_sm (c : UInt8) : ∀ (s : Str), ∀ x ∈ splitC c s, x.length ≤ s.length
  | [], x, h => by simp [splitC] at h; subst h; simp
  | y :: s, x, h => by
    have ih := splitC_sm c s
    unfold splitC at h
    split at h
    · rcases List.mem_cons.1 h with rfl | h
      · simp
      · have := ih x h; simp; omega
    · split at h
      · rename_i z zs hz
        rcases List.mem_cons.1 h with rfl | h
        · have := ih z (by rw [hz]; exact List.mem_cons_self); simp; omega
        · have := ih x (by rw [hz]; exact List.mem_cons_of_mem _ h); simp; omega
      · simp at h; subst h; simp
def alB (c : UInt8) : Bool := ((decide (97 ≤ c)) && (decide (c ≤ 122))) || ((decide (65 ≤ c)) && (decide (c ≤ 90)))
def subOK (s : Str) (d : Bool) : Bool := (s.all fun c => alB c || (d && isD c)) && ((s != []) && decide (s.length ≤ 8))
theorem low_al (c : UInt8) (d : Bool) : (((decide (lowB c < 97)) || (decide (122 < lowB c))) && (((!d) || (decide (lowB c < 48))) || (decide (57 < lowB c)))) = !(alB c || (d && isD c)) := by
  have h1 := all_u8 (fun c => (((decide (lowB c < 97)) || (decide (122 < lowB c))) && (((!true) || (decide (lowB c < 48))) || (decide (57 < lowB c)))) == !(alB c || (true && isD c))) (by decide +kernel) c
  have h2 := all_u8 (fun c => (((decide (lowB c < 97)) || (decide (122 < lowB c))) && (((!false) || (decide (lowB c < 48))) || (decide (57 < lowB c)))) == !(alB c || (false && isD c))) (by decide +kernel) c
  cases d
  · exact beq_iff_eq.1 h2
  · exact beq_iff_eq.1 h1
theorem le8 (n : Nat) : decide ((n : Int) ≤ 8) = decide (n ≤ 8) := le_nat n 8
theorem subtag_eq (s : Str) (d : Bool) (hs : s.length ≤ 1000000) : language_subtag s d = some (subOK s d) := by
  unfold language_subtag
  have hll : (lower s).length ≤ 1000000 := by rw [lower_len]; exact hs
  rw [Lower_eq _ (by omega), some_bind, while_bad (lower s) (by omega) (fun c => (((decide (c < 97)) || (decide (122 < c))) && (((!d) || (decide (c < 48))) || (decide (57 < c))))) (language_subtag_L0 d (lower s)) false, some_bind]
  · have e : (lower s).any (fun c => (((decide (c < 97)) || (decide (122 < c))) && (((!d) || (decide (c < 48))) || (decide (57 < c))))) = !(s.all fun c => alB c || (d && isD c)) := by
      unfold lower
      rw [List.any_map, ← not_any]
      congr 1; funext c
      exact low_al c d
    rw [e, le8]
    unfold subOK
    cases s.all fun c => alB c || (d && isD c) <;> rfl
  · intro n hn
    unfold language_subtag_L0
    rw [lt_true hn, bif_true, xnth_get hn, some_bind, some_bind]
    cases (((decide ((lower s)[n] < 97)) || (decide (122 < (lower s)[n]))) && (((!d) || (decide ((lower s)[n] < 48))) || (decide (57 < (lower s)[n])))) <;> rfl
  · unfold language_subtag_L0
    rw [lt_false (Nat.le_refl _), bif_false]
def tagsOK : Nat → List Str → Bool
  | _, [] => true
  | n, x :: l => subOK x (decide (0 < n)) && tagsOK (n + 1) l
def langS (s : Str) : Bool := tagsOK 0 (splitC 45 s)
theorem tags_loop (l : List Str) (hl : l.length ≤ 1000001) (body : Int → Option (Int ⊕ (Unit ⊕ Bool)))
    (h : ∀ (n : Nat) (hn : n < l.length), body (n : Int) = some (if subOK l[n] (decide (0 < n)) then .inl ((n + 1 : Nat) : Int) else .inr (.inr false))) (h' : body (l.length : Int) = some (.inr (.inl ()))) :
    ∀ (k n : Nat), n + k = l.length → whileO body (n : Int) = some (if tagsOK n (l.drop n) then .inl () else .inr false) := by
  intro k
  induction k with
  | zero =>
    intro n hn
    have : n = l.length := by omega
    subst this
    rw [whileO_done h', List.drop_length]; rfl
  | succ k ih =>
    intro n hn
    have hlt : n < l.length := by omega
    have hb := h n hlt
    rw [List.drop_eq_getElem_cons hlt]
    unfold tagsOK
    cases hs : subOK l[n] (decide (0 < n)) with
    | true => rw [hs] at hb; rw [whileO_next hb, ih (n + 1) (by omega), Bool.true_and]
    | false => rw [hs] at hb; rw [whileO_done hb]; rfl
theorem pos0 (n : Nat) : decide ((0 : Int) < (n : Int)) = decide (0 < n) := lt_nat 0 n
theorem Tag_eq (s : Str) (hs : s.length ≤ 1000000) : language_Tag s = some (langS s) := by
  have hl := splitC_len 45 s
  have hc : s.count 45 ≤ s.length := List.count_le_length
  unfold language_Tag
  rw [Split_eqC s 45 hs, some_bind]
  have := tags_loop (splitC 45 s) (by omega) (language_Tag_L0 (splitC 45 s)) ?_ ?_ (splitC 45 s).length 0 (by omega)
  · rw [show ((0 : Nat) : Int) = 0 from rfl, List.drop_zero] at this
    rw [this, some_bind]
    unfold langS
    cases tagsOK 0 (splitC 45 s) <;> rfl
  · intro n hn
    have hsm := splitC_sm 45 s _ (List.getElem_mem hn)
    unfold language_Tag_L0
    rw [lt_true hn, bif_true, xnth_get hn, some_bind, pos0, subtag_eq _ _ (by omega), some_bind, wrs (by omega)]
    cases subOK (splitC 45 s)[n] (decide (0 < n)) <;> rfl
  · unfold language_Tag_L0
    rw [lt_false (Nat.le_refl _), bif_false]
theorem RTag_eq (s : Str) (hs : s.length ≤ 1000000) : ref10_Tag s = some (langS s) := by
  have hl := splitC_len 45 s
  have hc : s.count 45 ≤ s.length := List.count_le_length
  unfold ref10_Tag
  rw [subtags_eq s hs, some_bind]
  have := tags_loop (splitC 45 s) (by omega) (ref10_Tag_L1 (splitC 45 s)) ?_ ?_ (splitC 45 s).length 0 (by omega)
  · rw [show ((0 : Nat) : Int) = 0 from rfl, List.drop_zero] at this
    rw [this, some_bind]
    unfold langS
    cases tagsOK 0 (splitC 45 s) <;> rfl
  · intro n hn
    have hsm := splitC_sm 45 s _ (List.getElem_mem hn)
    generalize hx : (splitC 45 s)[n] = x at *
    have hw : whileO (ref10_Tag_L0 (splitC 45 s) (n : Int)) 0 = some (if x.any (fun c => !(alB c || (decide (0 < n) && isD c))) then .inr (.inr (.inr false)) else .inl ()) := by
      have hx0 : xnth (splitC 45 s) (n : Int) = some x := by rw [xnth_get hn, hx]
      refine while_any (ρ := Unit ⊕ (Int ⊕ (Unit ⊕ Bool))) _ x (fun c => !(alB c || (decide (0 < n) && isD c))) (.inr (.inr (.inr false))) (.inl ()) ?_ ?_
      · intro i hi
        unfold ref10_Tag_L0
        rw [hx0, some_bind, lt_true hi, bif_true, some_bind, xnth_get hi, some_bind, pos0, RDigit_eq, wrs (by omega)]
        show ((bif alB x[i] then some true else _).bind _) = _
        cases alB x[i] <;> cases decide (0 < n) <;> cases isD x[i] <;> simp <;> omega
      · unfold ref10_Tag_L0
        rw [hx0, some_bind, lt_false (Nat.le_refl _), bif_false]
    unfold ref10_Tag_L1
    rw [lt_true hn, bif_true, xnth_get hn, hx, some_bind, hw, wrs (by omega)]
    have e8 : decide ((8 : Int) < (x.length : Int)) = !decide (x.length ≤ 8) := by
      rw [Bool.eq_iff_iff]; simp only [decide_eq_true_eq, Bool.not_eq_true', decide_eq_false_iff_not]; omega
    have e1 : decide ((x.length : Int) < 1) = (x == []) := by
      cases x with
      | nil => rfl
      | cons a b => rw [decide_eq_false (by rw [List.length_cons]; omega)]; rfl
    rw [e1, some_bind, e8]
    unfold subOK
    rw [not_any]
    have e3 : (x != []) = !(x == []) := rfl
    rw [e3]
    cases x == [] <;> cases decide (x.length ≤ 8) <;> cases (x.all fun c => alB c || (decide (0 < n) && isD c)) <;> rfl
  · unfold ref10_Tag_L1
    rw [lt_false (Nat.le_refl _), bif_false]
end Go.Eng.Pure
namespace Go.Eng.Pure
open Go Go.Eng
set_option linter.unusedVariables false
theorem while_sim {σ σ' ρ : Type} {body : σ → Option (σ ⊕ ρ)} {body' : σ' → Option (σ' ⊕ ρ)} (φ : σ → σ') (h : ∀ s, body' (φ s) = (body s).map (Sum.map φ id)) {s : σ} {r : ρ} (hw : whileO body s = some r) : whileO body' (φ s) = some r := by
  obtain ⟨n, hn⟩ := whileO_some hw
  refine whileO_of (n := n) ?_
  clear hw
  induction n generalizing s with
  | zero => simp [loopN] at hn
  | succ n ih =>
    unfold loopN at hn ⊢
    rw [h s]
    cases hb : body s with
    | none => rw [hb] at hn; cases hn
    | some x =>
      cases x with
      | inl s' => rw [hb] at hn; exact ih hn
      | inr r' => rw [hb] at hn; exact hn
theorem pcut_step (s : Str) (x : List Str × Int × Bool × Int) : param_cut_L0 s (x.1, x.2.2.1, x.2.1, x.2.2.2) = (ref01_Cut_L0 s 59 x).map (Sum.map (fun x => (x.1, x.2.2.1, x.2.1, x.2.2.2)) id) := by
  obtain ⟨o, f, q, i⟩ := x
  unfold param_cut_L0 ref01_Cut_L0
  simp only []
  cases decide (i < (s.length : Int)) with
  | false => rfl
  | true =>
    simp only [bif_true]
    cases hx : xnth s i with
    | none => cases q <;> rfl
    | some c =>
      have key : ∀ b : Bool, (bif b then some (Sum.inl (o, q, f, wr (wr (i + 1) + 1))) else
          (some c).bind fun c32 => bif c32 == 34 then some (.inl (o, !q, f, wr (i + 1))) else (some c).bind fun c34 =>
            bif c34 == 59 && !q then (xsub s f i).bind fun s38 => (xapp o [s38]).bind fun l44 => some (.inl (l44, q, wr (i + 1), wr (i + 1))) else some (.inl (o, q, f, wr (i + 1)))) =
        (bif b then some (Sum.inl (o, f, q, wr (wr (i + 1) + 1))) else
          (some c).bind fun c33 => bif c33 == 34 then some (.inl (o, f, !q, wr (i + 1))) else (some c).bind fun c35 =>
            bif c35 == 59 && !q then (xsub s f i).bind fun s39 => (xapp o [s39]).bind fun l45 => some (.inl (l45, wr (i + 1), q, wr (i + 1))) else some (.inl (o, f, q, wr (i + 1))) : Option ((List Str × Int × Bool × Int) ⊕ (List Str × Int))).map (Sum.map (fun x => (x.1, x.2.2.1, x.2.1, x.2.2.2)) id) := by
        intro b
        cases b with
        | true => rfl
        | false =>
          simp only [bif_false, some_bind]
          cases c == 34 with
          | true => rfl
          | false =>
            cases c == 59 <;> cases q <;> simp only [bif_false, bif_true, Bool.not_true, Bool.not_false, Bool.and_true, Bool.and_false] <;> try rfl
            cases xsub s f i with
            | none => rfl
            | some y =>
              simp only [some_bind]
              cases xapp o [y] <;> rfl
      cases q
      · exact key false
      · exact key (c == 92)
theorem PCut_eq (s : Str) (hs : s.length ≤ 1073741824) : param_cut s = some (cutS 59 s) := by
  have h := Cut_eq s 59 (by decide) hs
  obtain ⟨o, g, h1, h2, h3, h4⟩ := Cut_loop s 59 (by decide) hs s.length 0 0 false [] (by omega) (by omega) (by omega) (by omega) (by simp)
  have h5 := while_sim (body' := param_cut_L0 s) _ (pcut_step s) h1
  have h5 : whileO (param_cut_L0 s) ([], false, 0, 0) = some (o, (g : Int)) := h5
  have h1 : whileO (ref01_Cut_L0 s 59) ([], 0, false, 0) = some (o, (g : Int)) := h1
  unfold ref01_Cut at h
  rw [h1, some_bind] at h
  unfold param_cut
  rw [h5, some_bind]
  exact h
theorem ix_idx (s : Str) (c : UInt8) : Lib.indexByte s c = if c ∈ s then (s.idxOf c : Int) else -1 := by
  by_cases h : c ∈ s
  · obtain ⟨a, b, e, ha⟩ := first_cut h
    rw [if_pos h, e, ixB c b a (fun x hx e => ha (e ▸ hx)), List.idxOf_append, if_neg ha]; simp
  · rw [if_neg h, ixB_none c s h]
theorem idx_lt {s : Str} {c : UInt8} (h : c ∈ s) : s.idxOf c < s.length := List.idxOf_lt_length_of_mem h
theorem SCutC_eq (s : Str) (c : UInt8) (hs : s.length ≤ 1073741824) : strings_Cut s [c] = some (if c ∈ s then (s.take (s.idxOf c), s.drop (s.idxOf c + 1), true) else (s, [], false)) := by
  unfold strings_Cut stringslite_Cut stringslite_Index strings_IndexByte
  simp only []
  rw [ix_idx, some_bind]
  by_cases h : c ∈ s
  · have hl := idx_lt h
    rw [if_pos h, if_pos h, show decide ((0 : Int) ≤ (s.idxOf c : Int)) = true from decide_eq_true (by omega), bif_true, xsub_to (by omega), some_bind,
      show ((([c] : Str).length : Nat) : Int) = 1 from rfl, wrs (by omega), xsub_from (by omega), some_bind, some_bind]
  · rw [if_neg h, if_neg h]; rfl
def oneS (m : Str) : Str × Str × Bool :=
  if 61 ∈ m ∧ tok (m.take (m.idxOf 61)) = true then
    (if tok (m.drop (m.idxOf 61 + 1)) then (lower (m.take (m.idxOf 61)), m.drop (m.idxOf 61 + 1), true)
     else (lower (m.take (m.idxOf 61)), (unq (m.drop (m.idxOf 61 + 1))).1, (unq (m.drop (m.idxOf 61 + 1))).2))
  else ([], [], false)
theorem one_eq (m : Str) (hm : m.length ≤ 1073741824) : param_one m = some (oneS m) := by
  unfold param_one oneS
  rw [SCutC_eq m 61 hm, some_bind]
  by_cases h : (61 : UInt8) ∈ m
  · have h1 : (m.take (m.idxOf 61)).length ≤ 1073741824 := by rw [List.length_take]; omega
    have h2 : (m.drop (m.idxOf 61 + 1)).length ≤ 1073741824 := by rw [List.length_drop]; omega
    rw [if_pos h]
    simp only [Bool.not_true, bif_false]
    rw [Token_eq _ h1, some_bind, some_bind]
    cases ht : tok (m.take (m.idxOf 61)) with
    | false => rw [if_neg (by simp)]; rfl
    | true =>
      rw [if_pos ⟨h, rfl⟩, Bool.not_true, bif_false, Token_eq _ h2, some_bind]
      cases hv : tok (m.drop (m.idxOf 61 + 1)) with
      | true =>
        rw [Bool.not_true, bif_false, some_bind]
        simp only []
        rw [Lower_eq _ h1, some_bind]; rfl
      | false =>
        rw [Bool.not_false, bif_true, Unquote_eq _ h2, some_bind, some_bind]
        simp only []
        rw [Lower_eq _ h1, some_bind]; rfl
  · rw [if_neg h, if_neg (fun h2 => h h2.1)]
    rfl
def parL : List Str → List GParam → Option (List GParam)
  | [], acc => some acc
  | m :: l, acc => if trim m = [] then parL l acc else if (oneS (trim m)).2.2 then parL l (acc ++ [⟨(oneS (trim m)).1, (oneS (trim m)).2.1⟩]) else none
def parC (x : Str) (l : List Str) : Str × List GParam × Bool :=
  if trim x = [] then ([], [], false) else match parL l [] with | some ps => (trim x, ps, true) | none => ([], [], false)
def parS (s : Str) : Str × List GParam × Bool :=
  match cutS 59 s with
  | [] => ([], [], false)
  | x :: l => parC x l
def parF (acc : List GParam) (m : Str) : List GParam ⊕ (List GParam ⊕ (Str × List GParam × Bool)) :=
  if trim m = [] then .inl acc else if (oneS (trim m)).2.2 then .inl (acc ++ [⟨(oneS (trim m)).1, (oneS (trim m)).2.1⟩]) else .inr (.inr ([], [], false))
theorem par_run : ∀ (l : List Str) (acc : List GParam), run parF .inl l acc = match parL l acc with | some ps => .inl ps | none => .inr ([], [], false)
  | [], acc => rfl
  | m :: l, acc => by
    unfold run parF parL
    by_cases h : trim m = []
    · rw [if_pos h, if_pos h]; exact par_run l acc
    · rw [if_neg h, if_neg h]
      cases h2 : (oneS (trim m)).2.2 with
      | true => rw [if_pos rfl, if_pos rfl]; exact par_run l _
      | false => rw [if_neg (by decide), if_neg (by decide)]
theorem cutS_ne (a : UInt8) (s : Str) : cutS a s ≠ [] := by
  have : ∀ (s : Str) st cur, segs a st cur s ≠ [] := by
    intro s
    induction s with
    | nil => intro st cur; simp [segs]
    | cons c r ih => intro st cur; unfold segs; split; · simp
                     · exact ih _ _
  exact this s 0 []
theorem PParse_eq (s : Str) (hs : s.length ≤ 1000000) : param_Parse s = some (parS s) := by
  obtain ⟨c1, c2⟩ := cutS_sm 59 s
  unfold param_Parse parS
  rw [PCut_eq s (by omega), some_bind]
  cases hc : cutS 59 s with
  | nil => exact absurd hc (cutS_ne 59 s)
  | cons x l =>
    rw [hc] at c1 c2
    have hx := c1 x List.mem_cons_self
    have hl : l.length ≤ 1000000 := by rw [List.length_cons] at c2; omega
    show _ = some (parC x l)
    rw [xnth_cons, some_bind, Trim_eq _ (by omega), some_bind]
    unfold parC
    by_cases ht : trim x = []
    · rw [ht, if_pos rfl]; rfl
    · rw [show (trim x == []) = false by simpa using ht, bif_false, if_neg ht]
      have hsub : xsub (x :: l) 1 ((x :: l).length : Int) = some l := by
        have := xsub_from (l := x :: l) (i := 1) (by simp)
        simpa using this
      rw [hsub, some_bind]
      have := while_run0 (fun (acc : List GParam) i => (acc, i)) l parF .inl (param_Parse_L0 l) (fun n acc => acc.length ≤ n) [] (Nat.le_refl 0) ?_ ?_
      · rw [this, some_bind, par_run]
        cases parL l [] <;> rfl
      · intro n hn acc hI
        have hm := c1 l[n] (List.mem_cons_of_mem _ (List.getElem_mem hn))
        have htl := trim_len l[n]
        refine ⟨?_, ?_⟩
        · unfold param_Parse_L0 parF
          simp only []
          rw [lt_true hn, bif_true, xnth_get hn, some_bind, Trim_eq _ (by omega), some_bind]
          by_cases h1 : trim l[n] = []
          · rw [h1, if_pos rfl, wrs (by omega)]; rfl
          · rw [show (trim l[n] == []) = false by simpa using h1, bif_false, if_neg h1, one_eq _ (by omega), some_bind]
            cases h2 : (oneS (trim l[n])).2.2 with
            | true =>
              rw [Bool.not_true, bif_false, if_pos rfl, xapp_sm (by omega) (one_sm _), some_bind, wrs (by omega)]
            | false => rw [Bool.not_false, bif_true, if_neg (by decide)]
        · intro st' h
          unfold parF at h
          split at h
          · injection h with h; subst h; omega
          · split at h
            · injection h with h; subst h; rw [List.length_append, List.length_singleton]; omega
            · cases h
      · intro acc hI
        unfold param_Parse_L0
        simp only []
        rw [lt_false (Nat.le_refl _), bif_false]
theorem RIndex_eq (s : Str) (c : UInt8) (hs : s.length ≤ 1073741824) : ref01_Index s c 0 = some (if c ∈ s then (s.idxOf c : Int) else -1) := by
  have := Etag.Index_eq s c hs s.length 0 (by omega)
  rw [List.drop_zero, show ((0 : Nat) : Int) = 0 from rfl] at this
  rw [this]; simp
theorem RParams_eq (s : Str) (hs : s.length ≤ 1000000) : ref01_ParseParams s = some (parS s) := by
  obtain ⟨c1, c2⟩ := cutS_sm 59 s
  unfold ref01_ParseParams parS
  rw [Cut_eq s 59 (by decide) (by omega), some_bind]
  cases hc : cutS 59 s with
  | nil => exact absurd hc (cutS_ne 59 s)
  | cons x l =>
    rw [hc] at c1 c2
    have hx := c1 x List.mem_cons_self
    have hl : (x :: l).length ≤ 1000001 := by omega
    show _ = some (parC x l)
    rw [xnth_cons, some_bind, RTrim_eq _ (by omega), some_bind]
    unfold parC
    by_cases ht : trim x = []
    · rw [ht, if_pos rfl]; rfl
    · rw [show (trim x == []) = false by simpa using ht, bif_false, if_neg ht]
      have := while_run (fun (acc : List GParam) i => (acc, i)) (x :: l) parF .inl (ref01_ParseParams_L0 (x :: l)) (fun n acc => acc.length ≤ n) ?_ ?_ l.length 1 [] (by simp; omega) (by simp)
      · have e : (([] : List GParam), ((1 : Nat) : Int)) = (([] : List GParam), (1 : Int)) := rfl
        rw [e, show (x :: l).drop 1 = l from rfl] at this
        rw [this, some_bind, par_run]
        cases parL l [] <;> rfl
      · intro n hn acc hI
        have hm := c1 (x :: l)[n] (List.getElem_mem hn)
        have htl := trim_len (x :: l)[n]
        have hx1 := xnth_get hn
        generalize (x :: l)[n] = m at *
        refine ⟨?_, ?_⟩
        · unfold ref01_ParseParams_L0 parF
          simp only []
          rw [lt_true hn, bif_true, hx1, some_bind, RTrim_eq _ (by omega), some_bind]
          by_cases h1 : trim m = []
          · rw [h1, if_pos rfl, wrs (by omega)]; rfl
          · rw [show (trim m == []) = false by simpa using h1, bif_false, if_neg h1]
            generalize trim m = t at *
            have ht1 : (t.take (t.idxOf 61)).length ≤ 1073741824 := by rw [List.length_take]; omega
            have ht2 : (t.drop (t.idxOf 61 + 1)).length ≤ 1073741824 := by rw [List.length_drop]; omega
            rw [RIndex_eq _ _ (by omega), some_bind]
            by_cases h61 : (61 : UInt8) ∈ t
            · have hlt := idx_lt h61
              rw [if_pos h61, show decide ((t.idxOf 61 : Int) < 0) = false from decide_eq_false (by omega), bif_false, xsub_to (by omega), some_bind, RToken_eq _ ht1, some_bind, some_bind]
              cases htk : tok (t.take (t.idxOf 61)) with
              | false =>
                have ho : oneS t = ([], [], false) := by unfold oneS; rw [if_neg (by simp [htk])]
                rw [ho]; rfl
              | true =>
                rw [Bool.not_true, bif_false, wrs (by omega), xsub_from (by omega), some_bind, RToken_eq _ ht2, some_bind]
                cases hv : tok (t.drop (t.idxOf 61 + 1)) with
                | true =>
                  have ho : oneS t = (lower (t.take (t.idxOf 61)), t.drop (t.idxOf 61 + 1), true) := by unfold oneS; rw [if_pos ⟨h61, htk⟩, if_pos hv]
                  rw [ho, Bool.not_true, bif_false, some_bind]
                  simp only []
                  rw [some_bind, RLower_eq _ ht1, some_bind, xapp_sm (by omega) (one_sm _), some_bind, wrs (by omega)]
                  rfl
                | false =>
                  have ho : oneS t = (lower (t.take (t.idxOf 61)), (unq (t.drop (t.idxOf 61 + 1))).1, (unq (t.drop (t.idxOf 61 + 1))).2) := by unfold oneS; rw [if_pos ⟨h61, htk⟩, if_neg (by simp [hv])]
                  rw [ho, Bool.not_false, bif_true, RUnquote_eq _ ht2, some_bind]
                  cases hu : (unq (t.drop (t.idxOf 61 + 1))).2 with
                  | false => rfl
                  | true =>
                    rw [Bool.not_true, bif_false, some_bind]
                    simp only []
                    rw [some_bind, RLower_eq _ ht1, some_bind, xapp_sm (by omega) (one_sm _), some_bind, wrs (by omega)]
                    rfl
            · have ho : oneS t = ([], [], false) := by unfold oneS; rw [if_neg (fun h => h61 h.1)]
              rw [if_neg h61, ho]; rfl
        · intro st' h
          unfold parF at h
          split at h
          · injection h with h; subst h; omega
          · split at h
            · injection h with h; subst h; rw [List.length_append, List.length_singleton]; omega
            · cases h
      · intro acc hI
        unfold ref01_ParseParams_L0
        simp only []
        rw [lt_false (Nat.le_refl _), bif_false]
end Go.Eng.Pure
namespace Go.Eng.Pure
open Go Go.Eng
set_option linter.unusedVariables false
theorem parS_len (s : Str) : (parS s).1.length ≤ s.length ∧ (parS s).2.1.length ≤ s.length + 1 := by
  obtain ⟨c1, c2⟩ := cutS_sm 59 s
  have hp : ∀ (l : List Str) (acc ps : List GParam), parL l acc = some ps → ps.length ≤ acc.length + l.length := by
    intro l
    induction l with
    | nil => intro acc ps h; unfold parL at h; injection h with h; subst h; simp
    | cons m l ih =>
      intro acc ps h
      unfold parL at h
      split at h
      · have := ih _ _ h; simp; omega
      · split at h
        · have := ih _ _ h; simp at this ⊢; omega
        · cases h
  unfold parS
  cases hc : cutS 59 s with
  | nil => simp
  | cons x l =>
    rw [hc] at c1 c2
    have hx := c1 x List.mem_cons_self
    have ht := trim_len x
    show (parC x l).1.length ≤ _ ∧ (parC x l).2.1.length ≤ _
    unfold parC
    split
    · simp
    · split
      · rename_i ps h
        have := hp l [] ps h
        simp at this c2 ⊢
        omega
      · simp
def noT : GMediaType := ⟨[], [], []⟩
def rangeS (s : Str) : GMediaType × Bool :=
  if (parS s).2.2 = true ∧ (47 : UInt8) ∈ (parS s).1 ∧ tok ((parS s).1.take ((parS s).1.idxOf 47)) = true ∧ tok ((parS s).1.drop ((parS s).1.idxOf 47 + 1)) = true ∧
      ¬ ((parS s).1.take ((parS s).1.idxOf 47) = [42] ∧ (parS s).1.drop ((parS s).1.idxOf 47 + 1) ≠ [42]) then
    (⟨lower ((parS s).1.take ((parS s).1.idxOf 47)), lower ((parS s).1.drop ((parS s).1.idxOf 47 + 1)), (parS s).2.1⟩, true)
  else (noT, false)
theorem PRange_eq (s : Str) (hs : s.length ≤ 1000000) : mediatype_ParseRange s = some (rangeS s) := by
  obtain ⟨l1, _⟩ := parS_len s
  unfold mediatype_ParseRange rangeS
  rw [PParse_eq s hs, some_bind]
  generalize parS s = q at *
  obtain ⟨m, ps, ok⟩ := q
  simp only [] at l1 ⊢
  cases ok with
  | false => rw [if_neg (by simp)]; rfl
  | true =>
    rw [Bool.not_true, bif_false, SCutC_eq m 47 (by omega), some_bind]
    by_cases h : (47 : UInt8) ∈ m
    · have h1 : (m.take (m.idxOf 47)).length ≤ 1073741824 := by rw [List.length_take]; omega
      have h2 : (m.drop (m.idxOf 47 + 1)).length ≤ 1073741824 := by rw [List.length_drop]; omega
      rw [if_pos h]
      simp only []
      generalize m.take (m.idxOf 47) = a at *
      generalize m.drop (m.idxOf 47 + 1) = b at *
      rw [Token_eq a h1, some_bind, Token_eq b h2]
      cases ta : tok a with
      | false => rw [if_neg (by simp)]; rfl
      | true =>
        cases tb : tok b with
        | false => rw [if_neg (by simp)]; rfl
        | true =>
          rw [Bool.not_true, bif_false, some_bind, some_bind, Bool.not_true, Bool.false_or]
          by_cases hab : a = [42] ∧ b ≠ [42]
          · rw [show ((a == [42]) && (b != [42])) = true by rw [hab.1]; simpa using hab.2, bif_true, if_neg (fun hh => hh.2.2.2.2 hab)]; rfl
          · rw [show ((a == [42]) && (b != [42])) = false by
              rw [Bool.eq_false_iff]; intro hh; rw [Bool.and_eq_true, beq_iff_eq, bne_iff_ne] at hh; exact hab hh, bif_false, Lower_eq _ h1, some_bind, Lower_eq _ h2, some_bind, if_pos (show _ from ⟨by trivial, h, by trivial, by trivial, hab⟩)]
    · rw [if_neg h, if_neg (fun hh => h hh.2.1)]
      simp only []
      rw [Token_eq m (by omega), some_bind]
      have : ascii_Token [] = some false := by rw [Token_eq _ (by decide)]; rfl
      rw [this]
      cases tok m <;> rfl
theorem RRange_eq (s : Str) (hs : s.length ≤ 1000000) : ref10_ParseRange s = some (rangeS s) := by
  obtain ⟨l1, _⟩ := parS_len s
  unfold ref10_ParseRange rangeS
  rw [RParams_eq s hs, some_bind]
  generalize parS s = q at *
  obtain ⟨m, ps, ok⟩ := q
  simp only [] at l1 ⊢
  cases ok with
  | false => rw [if_neg (by simp)]; rfl
  | true =>
    rw [Bool.not_true, bif_false, RIndex_eq m 47 (by omega), some_bind]
    by_cases h : (47 : UInt8) ∈ m
    · have h1 : (m.take (m.idxOf 47)).length ≤ 1073741824 := by rw [List.length_take]; omega
      have h2 : (m.drop (m.idxOf 47 + 1)).length ≤ 1073741824 := by rw [List.length_drop]; omega
      have hlt := idx_lt h
      rw [if_pos h, show decide ((m.idxOf 47 : Int) < 0) = false from decide_eq_false (by omega), bif_false, xsub_to (by omega), some_bind, wrs (by omega), xsub_from (by omega)]
      generalize m.take (m.idxOf 47) = a at *
      generalize m.drop (m.idxOf 47 + 1) = b at *
      rw [RToken_eq a h1, some_bind, some_bind, some_bind, RToken_eq b h2, some_bind]
      cases ta : tok a with
      | false => rw [if_neg (by simp)]; rfl
      | true =>
        cases tb : tok b with
        | false => rw [if_neg (by simp)]; rfl
        | true =>
          rw [Bool.not_true, bif_false, some_bind, bif_false]
          by_cases hab : a = [42] ∧ b ≠ [42]
          · rw [if_neg (fun hh => hh.2.2.2.2 hab), some_bind]
            have hk : (bif a == [42] then (some b).bind fun s46 => some (s46 != [42]) else some false) = some true := by
              rw [hab.1, show (([42] : Str) == [42]) = true from rfl, bif_true, some_bind, show (b != [42]) = true by simpa using hab.2]
            rw [hk]; rfl
          · rw [if_pos (show _ from ⟨by trivial, h, by trivial, by trivial, hab⟩), some_bind]
            have hk : (bif a == [42] then (some b).bind fun s46 => some (s46 != [42]) else some false) = some false := by
              by_cases ha : a = [42]
              · have hb : b = [42] := by
                  by_cases hb : b = [42]
                  · exact hb
                  · exact absurd ⟨ha, hb⟩ hab
                rw [ha, hb]; rfl
              · rw [show (a == [42]) = false by simpa using ha]; rfl
            rw [hk, some_bind, some_bind, bif_false, some_bind, RLower_eq _ h1, some_bind, some_bind, RLower_eq _ h2, some_bind]
    · rw [if_neg h, if_neg (fun hh => h hh.2.1)]
      rfl
def typeS (s : Str) : GMediaType × Bool := if ((!(rangeS s).2 || (rangeS s).1.fType == [42]) || (rangeS s).1.fSub == [42]) = true then (noT, false) else ((rangeS s).1, true)
theorem PType_eq (s : Str) (hs : s.length ≤ 1000000) : mediatype_Parse s = some (typeS s) := by
  unfold mediatype_Parse typeS
  rw [PRange_eq s hs, some_bind]
  cases ((!(rangeS s).2 || (rangeS s).1.fType == [42]) || (rangeS s).1.fSub == [42]) <;> rfl
theorem RType_eq (s : Str) (hs : s.length ≤ 1000000) : ref10_ParseType s = some (typeS s) := by
  unfold ref10_ParseType typeS
  rw [RRange_eq s hs, some_bind]
  cases ((!(rangeS s).2 || (rangeS s).1.fType == [42]) || (rangeS s).1.fSub == [42]) <;> rfl
theorem typeS_len (s : Str) : (typeS s).1.fParams.length ≤ s.length + 1 := by
  have h := (parS_len s).2
  unfold typeS
  split
  · simp [noT]
  · unfold rangeS
    split
    · exact h
    · simp [noT]
def canS (k : Int) (s : Str) : Str :=
  if k = 4 ∧ lower s = [120, 45, 103, 122, 105, 112] then [103, 122, 105, 112] else if k = 4 ∧ lower s = [120, 45, 99, 111, 109, 112, 114, 101, 115, 115] then [99, 111, 109, 112, 114, 101, 115, 115] else lower s
theorem Can_eq (k : Int) (s : Str) (hs : s.length ≤ 1073741824) : coding_Canonical k s = some (canS k s) := by
  unfold coding_Canonical canS
  rw [Lower_eq _ hs, some_bind]
  by_cases hk : k = 4
  · subst hk
    rw [show ((4 : Int) != 4) = false from rfl, bif_false]
    generalize lower s = l
    by_cases h1 : l = [103, 122, 105, 112]
    · subst h1; rfl
    by_cases h2 : l = [120, 45, 103, 122, 105, 112]
    · subst h2; rfl
    by_cases h3 : l = [99, 111, 109, 112, 114, 101, 115, 115]
    · subst h3; rfl
    by_cases h4 : l = [120, 45, 99, 111, 109, 112, 114, 101, 115, 115]
    · subst h4; rfl
    have e1 : (l == [103, 122, 105, 112]) = false := by simpa using h1
    have e2 : (l == [120, 45, 103, 122, 105, 112]) = false := by simpa using h2
    have e3 : (l == [99, 111, 109, 112, 114, 101, 115, 115]) = false := by simpa using h3
    have e4 : (l == [120, 45, 99, 111, 109, 112, 114, 101, 115, 115]) = false := by simpa using h4
    rw [e1, e2, e3, e4, if_neg (fun h => h2 h.2), if_neg (fun h => h4 h.2)]
    rfl
  · rw [show (k != 4) = true by simpa using hk, bif_true, if_neg (fun h => hk h.1), if_neg (fun h => hk h.1)]
theorem RCan_eq (k : Int) (s : Str) (hs : s.length ≤ 1073741824) : ref10_Canonical k s = some (canS k s) := by
  unfold ref10_Canonical canS
  rw [RLower_eq _ hs, some_bind]
  by_cases h1 : k = 4 ∧ lower s = [120, 45, 103, 122, 105, 112]
  · rw [if_pos h1, h1.1, h1.2]; rfl
  · rw [if_neg h1, show ((k == 4) && (lower s == [120, 45, 103, 122, 105, 112])) = false by
      rw [Bool.eq_false_iff]; intro h; rw [Bool.and_eq_true, beq_iff_eq, beq_iff_eq] at h; exact h1 h, bif_false]
    by_cases h2 : k = 4 ∧ lower s = [120, 45, 99, 111, 109, 112, 114, 101, 115, 115]
    · rw [if_pos h2, h2.1, h2.2]; rfl
    · rw [if_neg h2, show ((k == 4) && (lower s == [120, 45, 99, 111, 109, 112, 114, 101, 115, 115])) = false by
        rw [Bool.eq_false_iff]; intro h; rw [Bool.and_eq_true, beq_iff_eq, beq_iff_eq] at h; exact h2 h, bif_false]
end Go.Eng.Pure
