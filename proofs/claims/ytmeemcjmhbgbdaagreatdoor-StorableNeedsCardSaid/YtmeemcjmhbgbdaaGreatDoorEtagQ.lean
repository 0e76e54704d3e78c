/- Layer 21: entity tags: what the functions compute, in plain words. -/
import Derived.Test.YtmeemcjmhbgbdaaGreatDoorLib
import Derived.Test.YtmeemcjmhbgbdaaGreatDoorListLaw2
namespace Go.Eng.Pure.Etag
open Go Go.Eng Go.Eng.Pure

/-- May a byte not stand in a tag? -/
def badTag (c : UInt8) : Bool := (decide (c < 33) || c == 34) || c == 127
def tagOK (s : Str) : Bool := !s.any badTag
theorem permitted_eq (s : Str) (hs : s.length ≤ big) : etag_permitted s = some (tagOK s) := by
  unfold etag_permitted
  rw [while_any (etag_permitted_L0 s) s badTag (.inr false) (.inl ())]
  · unfold tagOK
    cases s.any badTag <;> rfl
  · intro n hn
    unfold etag_permitted_L0
    rw [xnth_nat, List.getElem?_eq_getElem hn, some_bind, wr_nat (by omega) (by simp only [big] at hs; omega)]
    have : decide ((n : Int) < (s.length : Int)) = true := by simpa using hn
    rw [this, bif_true]
    show (bif badTag s[n] then _ else _) = _
    cases badTag s[n] <;> rfl
  · unfold etag_permitted_L0; simp
/-- The text between the quotes, if there are quotes. -/
def inner (t : Str) : Option Str :=
  match t with
  | a :: r => if a = 34 ∧ r ≠ [] ∧ r.getLast? = some 34 ∧ tagOK r.dropLast then some r.dropLast else none
  | [] => none
def tagOf (weak : Bool) (t : Str) : GETag × Bool := match inner t with | some x => (⟨weak, x⟩, true) | none => (⟨false, []⟩, false)
def pre : Str := [87, 47]
def parseSpec (s : Str) : GETag × Bool := if pre.isPrefixOf s then tagOf true (s.drop 2) else tagOf false s

/-- What stands behind it in both texts. -/
theorem core_eq (chk : Str → Option Bool) (hchk : ∀ s : Str, s.length ≤ big → chk s = some (tagOK s)) (t : Str) (w : Bool) (ht : t.length ≤ big) :
    ((bif decide ((t.length : Int) < 2) then some true else (xnth t 0).bind fun c10 => some (c10 != 34)).bind fun b11 =>
      (bif b11 then some true else (xnth t (wr ((t.length : Int) - 1))).bind fun c14 => some (c14 != 34)).bind fun b15 =>
      (bif b15 then some true else (xsub t 1 (wr ((t.length : Int) - 1))).bind fun s18 => (chk s18).bind fun r19 => some (!r19)).bind fun b24 =>
      (bif b24 then some ((⟨false, []⟩ : GETag), false) else (xsub t 1 (wr ((t.length : Int) - 1))).bind fun s30 => some ((⟨w, s30⟩ : GETag), true))) = some (tagOf w t) := by
  match t, ht with
  | [], _ => rfl
  | [a], _ => simp [tagOf, inner]
  | a :: b :: r, ht =>
    obtain ⟨m, z, hm⟩ : ∃ m z, b :: r = m ++ [z] := ⟨(b :: r).dropLast, (b :: r).getLast (by simp), (List.dropLast_concat_getLast (by simp)).symm⟩
    rw [hm] at ht ⊢
    have hlen : (((a :: (m ++ [z])).length : Nat) : Int) = (m.length : Int) + 2 := by simp; omega
    have hw : wr (((a :: (m ++ [z])).length : Int) - 1) = ((m.length + 1 : Nat) : Int) := by
      rw [hlen, wr_nat (by omega) (by simp at ht; simp only [big] at ht; omega)]; omega
    have h1 : decide (((a :: (m ++ [z])).length : Int) < 2) = false := by rw [hlen]; simp; omega
    have h2 : xnth (a :: (m ++ [z])) ((m.length + 1 : Nat) : Int) = some z := by rw [xnth_nat]; simp
    have h3 : xsub (a :: (m ++ [z])) 1 ((m.length + 1 : Nat) : Int) = some m := by
      have := xsub_nat (l := a :: (m ++ [z])) (i := 1) (j := m.length + 1) ⟨by omega, by simp⟩
      rw [show ((1 : Nat) : Int) = 1 from rfl] at this
      rw [this]; simp
    have h4 := hchk m (by simp at ht; omega)
    rw [hw, h1, bif_false, xnth_cons, h2, h3]
    simp only [some_bind, h4]
    have hi : inner (a :: (m ++ [z])) = if a = 34 ∧ z = 34 ∧ tagOK m = true then some m else none := by
      simp [inner]
    unfold tagOf
    rw [hi]
    by_cases ha : a = 34
    · have ha' : (a != 34) = false := by simp [ha]
      by_cases hz : z = 34
      · have hz' : (z != 34) = false := by simp [hz]
        cases hk : tagOK m <;> simp [ha, hz]
      · have hz' : (z != 34) = true := by simpa using hz
        simp [hz, ha', hz']
    · have ha' : (a != 34) = true := by simpa using ha
      simp [ha, ha']

theorem isPrefixOf_take (p s : Str) : p.isPrefixOf s = (decide (p.length ≤ s.length) && s.take p.length == p) := by
  induction p generalizing s with
  | nil => simp
  | cons a p ih =>
    cases s with
    | nil => simp
    | cons b s =>
      simp only [List.isPrefixOf, List.length_cons, List.take_succ_cons, Nat.add_le_add_iff_right]
      rw [ih]
      by_cases h : a = b
      · subst h; simp
      · have e1 : (a == b) = false := by simpa using h
        have e2 : (b == a) = false := by simpa using fun e => h e.symm
        simp [e1, e2]
theorem HasPrefix_eq (s p : Str) : stringslite_HasPrefix s p = some (p.isPrefixOf s) := by
  unfold stringslite_HasPrefix
  rw [isPrefixOf_take]
  by_cases h : p.length ≤ s.length
  · have h1 : decide ((p.length : Int) ≤ (s.length : Int)) = true := by simpa using h
    rw [h1, bif_true]
    have := xsub_nat (l := s) (i := 0) (j := p.length) ⟨by omega, h⟩
    rw [show ((0 : Nat) : Int) = 0 from rfl] at this
    rw [this]
    simp [h]
  · have h1 : decide ((p.length : Int) ≤ (s.length : Int)) = false := by simpa using h
    rw [h1, bif_false]
    simp [h]
theorem CutPrefix_eq (s p : Str) : strings_CutPrefix s p = some (if p.isPrefixOf s then (s.drop p.length, true) else (s, false)) := by
  unfold strings_CutPrefix stringslite_CutPrefix
  rw [HasPrefix_eq]
  simp only [some_bind]
  cases h : p.isPrefixOf s
  · simp
  · have hl : p.length ≤ s.length := by rw [isPrefixOf_take] at h; simp at h; exact h.1
    have := xsub_nat (l := s) (i := p.length) (j := s.length) ⟨hl, Nat.le_refl _⟩
    simp [this]
theorem EParse_eq (s : Str) (hs : s.length ≤ big) : etag_Parse s = some (parseSpec s) := by
  unfold etag_Parse parseSpec
  rw [CutPrefix_eq]
  simp only [some_bind]
  cases h : List.isPrefixOf [87, 47] s
  · simp only [Bool.false_eq_true, if_false, pre, h]
    exact core_eq _ permitted_eq s false hs
  · simp only [if_true, pre, h]
    exact core_eq _ permitted_eq (s.drop 2) true (by simp; omega)
end Go.Eng.Pure.Etag
