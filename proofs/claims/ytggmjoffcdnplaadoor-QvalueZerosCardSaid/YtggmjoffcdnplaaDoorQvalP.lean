/- Qvalue: what the functions compute, in plain words. -/
import Derived.Test.YtggmjoffcdnplaaDoorLib
import Derived.Test.YtggmjoffcdnplaaDoorPureB
namespace Go.Eng.Pure
open Go Go.Eng
def dv (c : UInt8) : Int := ((c - 48).toNat : Int)
def dg (c : UInt8) : Bool := !(decide (c < 48)) && !(decide (57 < c))
theorem dv_lt (c : UInt8) (h : dg c = true) : 0 ≤ dv c ∧ dv c ≤ 9 := by
  unfold dv dg at *
  simp only [Bool.and_eq_true, Bool.not_eq_true', decide_eq_false_iff_not, UInt8.lt_iff_toNat_lt, UInt8.toNat_sub] at *
  have h48 : (48 : UInt8).toNat = 48 := rfl
  have h57 : (57 : UInt8).toNat = 57 := rfl
  have := c.toNat_lt
  omega
/-- The loop of Parse, from place i on. -/
def sumQ : List Int → List UInt8 → Int → Option Int
  | w :: ws, c :: cs, q => if dg c then sumQ ws cs (q + w * dv c) else none
  | _, _, q => some q
def finQ : Option Int → Int × Bool
  | some q => if 1000 < q then (0, false) else (q, true)
  | none => (0, false)
def parseQ : Str → Int × Bool
  | [] => (0, false)
  | [a] => if a = 48 ∨ a = 49 then finQ (some (1000 * dv a)) else (0, false)
  | a :: b :: r => if (a = 48 ∨ a = 49) ∧ b = 46 ∧ r.length ≤ 3 then finQ (sumQ [100, 10, 1] r (1000 * dv a)) else (0, false)
theorem le_not_lt (a b : UInt8) : decide (a ≤ b) = !decide (b < a) := by
  by_cases h : b < a
  · have : ¬ a ≤ b := fun h' => absurd (UInt8.lt_of_lt_of_le h h') (by simp)
    simp [h, this]
  · simp [h, UInt8.not_lt.1 h]
theorem digit_eq (c : UInt8) : ref01_Digit c = some (dg c) := by
  simp only [ref01_Digit, dg, le_not_lt]
theorem nodig_eq (c : UInt8) : (bif decide (c < 48) then some true else some (decide (57 < c))) = some (!dg c) := by
  simp only [dg]
  cases decide (c < 48) <;> cases decide (57 < c) <;> rfl
def outQ : Option Int → Int ⊕ (Int × Bool)
  | some q => .inl q
  | none => .inr (0, false)
/-- One round of Parse's loop, behind the point. -/
theorem Parse_round (s : Str) (l : List Int) (q : Int) (i : Nat) (hi : 2 ≤ i) (hs : i < s.length) (hl : i < l.length) (hb : s.length ≤ 5) (hw : 0 ≤ l[i] ∧ l[i] ≤ 1000) (hq : 0 ≤ q ∧ q ≤ 1000000) :
    qvalue_Parse_L0 s l (q, (i : Int)) = some (if dg s[i] then .inl (q + l[i] * dv s[i], ((i + 1 : Nat) : Int)) else .inr (.inr (0, false))) := by
  have e0 : decide ((i : Int) < (l.length : Int)) = true := by simp; omega
  have e1 : ((i : Int) == 1) = false := by simp; omega
  have e2 : xnth l (i : Int) = some l[i] := by rw [xnth_nat, List.getElem?_eq_getElem hl]
  have e3 : xnth s (i : Int) = some s[i] := by rw [xnth_nat, List.getElem?_eq_getElem hs]
  simp only [qvalue_Parse_L0, e0, e1, e2, e3, bif_true, bif_false, some_bind, nodig_eq]
  cases hd : dg s[i] with
  | false => rfl
  | true =>
    have hv := dv_lt _ hd
    have hv' : ((s[i] - 48).toNat : Int) = dv s[i] := rfl
    have hm : 0 ≤ l[i] * dv s[i] ∧ l[i] * dv s[i] ≤ 9000 := by
      refine ⟨Int.mul_nonneg hw.1 hv.1, ?_⟩
      have := Int.mul_le_mul hw.2 hv.2 hv.1 (by omega : (0 : Int) ≤ 1000)
      omega
    rw [hv', wr_nat (n := l[i] * dv s[i]) (by omega) (by omega), wr_nat (by omega) (by omega), wr_nat (by omega) (by omega)]
    simp
theorem Parse_loop (s : Str) (l : List Int) (hsl : s.length = l.length) (hb : s.length ≤ 5) (hw : ∀ (i : Nat) (h : i < l.length), 0 ≤ l[i] ∧ l[i] ≤ 1000) :
    ∀ (k i : Nat) (q : Int), 2 ≤ i → i + k = s.length → 0 ≤ q ∧ q ≤ 900000 - 9000 * (k : Int) → whileO (qvalue_Parse_L0 s l) (q, (i : Int)) = some (outQ (sumQ (l.drop i) (s.drop i) q)) := by
  intro k
  induction k with
  | zero =>
    intro i q hi hk hq
    have e0 : decide ((i : Int) < (l.length : Int)) = false := by simp; omega
    rw [whileO_done (r := .inl q)]
    · rw [List.drop_eq_nil_of_le (by omega)]; rfl
    · simp only [qvalue_Parse_L0, e0, bif_false]
  | succ k ih =>
    intro i q hi hk hq
    have hs : i < s.length := by omega
    have hl : i < l.length := by omega
    have hr := Parse_round s l q i hi hs hl hb (hw i hl) ⟨hq.1, by omega⟩
    rw [List.drop_eq_getElem_cons hs, List.drop_eq_getElem_cons hl]
    cases hd : dg s[i] with
    | false =>
      rw [hd] at hr
      rw [whileO_done (by simpa using hr)]
      simp [sumQ, hd, outQ]
    | true =>
      rw [hd] at hr
      have hv := dv_lt _ hd
      have hm : 0 ≤ l[i] * dv s[i] ∧ l[i] * dv s[i] ≤ 9000 := by
        refine ⟨Int.mul_nonneg (hw i hl).1 hv.1, ?_⟩
        have := Int.mul_le_mul (hw i hl).2 hv.2 hv.1 (by omega : (0 : Int) ≤ 1000)
        omega
      rw [whileO_next (by simpa using hr), ← Int.natCast_one, ← Int.natCast_add, ih (i + 1) _ (by omega) (by omega) ⟨by omega, by omega⟩]
      simp [sumQ, hd]

theorem head_eq (a : UInt8) : (bif a != 48 then some (a != 49) else some false) = some (!(decide (a = 48 ∨ a = 49))) := by
  by_cases h : a = 48
  · subst h; rfl
  · have : (a != 48) = true := by simp [h]
    rw [this, bif_true]
    by_cases h2 : a = 49
    · subst h2; rfl
    · have : (a != 49) = true := by simp [h2]
      simp [this, h, h2]
theorem head_dg {a : UInt8} (h : a = 48 ∨ a = 49) : dg a = true ∧ 0 ≤ dv a ∧ dv a ≤ 1 := by
  rcases h with rfl | rfl <;> decide
theorem Parse_eq (s : Str) (hb : s.length ≤ 5) : qvalue_Parse s = some (parseQ s) := by
  match s, hb with
  | [], _ => simp [qvalue_Parse, parseQ]
  | [a], _ =>
    have e : ((([a] : Str) == []) || decide (5 < (([a] : Str).length : Int))) = false := rfl
    have e1 : decide (1 < (([a] : Str).length : Int)) = false := rfl
    have e2 : xsub ([1000, 0, 100, 10, 1] : List Int) 0 (([a] : Str).length : Int) = some [1000] := rfl
    simp only [qvalue_Parse, e, e1, e2, bif_false, xnth_cons, some_bind, head_eq]
    by_cases h : a = 48 ∨ a = 49
    · obtain ⟨hd, hv⟩ := head_dg h
      simp only [h, decide_true, Bool.not_true, bif_false, some_bind]
      have r1 : qvalue_Parse_L0 [a] [1000] (0, 0) = some (.inl (1000 * dv a, 1)) := by
        have e3 : decide ((0 : Int) < (([1000] : List Int).length : Int)) = true := rfl
        have e4 : xnth ([1000] : List Int) 0 = some 1000 := rfl
        have e5 : ((0 : Int) == 1) = false := rfl
        have hv' : ((a - 48).toNat : Int) = dv a := rfl
        simp only [qvalue_Parse_L0, e3, e4, e5, bif_true, bif_false, some_bind, xnth_cons, nodig_eq, hd, Bool.not_true, hv']
        rw [wr_nat (n := 1000 * dv a) (by omega) (by omega), wr_nat (by omega) (by omega), wr_nat (by omega) (by omega)]
        simp
      have r2 : qvalue_Parse_L0 [a] [1000] (1000 * dv a, 1) = some (.inr (.inl (1000 * dv a))) := rfl
      rw [whileO_next r1, whileO_done r2]
      simp only [some_bind, parseQ, h, if_true, finQ]
      by_cases hq : 1000 < 1000 * dv a
      · simp [hq]
      · simp [hq]
    · simp [h, parseQ]
  | a :: b :: r, hb =>
    have hr3 : r.length ≤ 3 := by simp at hb; omega
    have e : (((a :: b :: r : Str) == []) || decide (5 < ((a :: b :: r : Str).length : Int))) = false := by
      have : ((a :: b :: r : Str) == []) = false := rfl
      rw [this]; simp; omega
    have e1 : decide (1 < ((a :: b :: r : Str).length : Int)) = true := by simp; omega
    have e2 : xsub ([1000, 0, 100, 10, 1] : List Int) 0 ((a :: b :: r : Str).length : Int) = some (1000 :: 0 :: [100, 10, 1].take r.length) := by
      rw [xsub_some ⟨by omega, by omega, by simp; omega⟩]
      have : (((a :: b :: r : Str).length : Int)).toNat = r.length + 2 := by simp; omega
      rw [this]; rfl
    have e3 : xnth (a :: b :: r) 1 = some b := rfl
    simp only [qvalue_Parse, e, e1, e2, e3, bif_false, bif_true, xnth_cons, some_bind, head_eq]
    by_cases h : a = 48 ∨ a = 49
    · by_cases hb2 : b = 46
      · obtain ⟨hd, hv⟩ := head_dg h
        have e4 : (b != 46) = false := by simp [hb2]
        simp only [h, e4, decide_true, Bool.not_true, bif_false, some_bind]
        have hsl : (a :: b :: r).length = (1000 :: 0 :: [100, 10, 1].take r.length : List Int).length := by simp; omega
        have hws : ∀ (i : Nat) (h : i < (1000 :: 0 :: [100, 10, 1].take r.length : List Int).length), 0 ≤ (1000 :: 0 :: [100, 10, 1].take r.length : List Int)[i] ∧ (1000 :: 0 :: [100, 10, 1].take r.length : List Int)[i] ≤ 1000 := by
          intro i hi
          have hm : (1000 :: 0 :: [100, 10, 1].take r.length : List Int)[i] ∈ ([1000, 0, 100, 10, 1] : List Int) := by
            have h1 := List.getElem_mem hi
            simp only [List.mem_cons] at h1 ⊢
            rcases h1 with h1 | h1 | h1
            · exact .inl h1
            · exact .inr (.inl h1)
            · have := List.mem_of_mem_take h1
              simp only [List.mem_cons] at this
              exact .inr (.inr this)
          simp only [List.mem_cons, List.mem_nil_iff, or_false] at hm
          omega
        generalize hL : (1000 :: 0 :: [100, 10, 1].take r.length : List Int) = l at hsl hws ⊢
        have r1 : qvalue_Parse_L0 (a :: b :: r) l (0, 0) = some (.inl (1000 * dv a, 1)) := by
          have e3 : decide ((0 : Int) < (l.length : Int)) = true := by rw [← hL]; simp; omega
          have e4 : xnth l 0 = some 1000 := by rw [← hL]; rfl
          have e5 : ((0 : Int) == 1) = false := rfl
          have hv' : ((a - 48).toNat : Int) = dv a := rfl
          simp only [qvalue_Parse_L0, e3, e4, e5, bif_true, bif_false, some_bind, xnth_cons, nodig_eq, hd, Bool.not_true, hv']
          rw [wr_nat (n := 1000 * dv a) (by omega) (by omega), wr_nat (by omega) (by omega), wr_nat (by omega) (by omega)]
          simp
        have r2 : qvalue_Parse_L0 (a :: b :: r) l (1000 * dv a, 1) = some (.inl (1000 * dv a, ((2 : Nat) : Int))) := by
          have e3 : decide ((1 : Int) < (l.length : Int)) = true := by rw [← hL]; simp; omega
          have e4 : xnth l 1 = some 0 := by rw [← hL]; rfl
          have e5 : ((1 : Int) == 1) = true := rfl
          simp only [qvalue_Parse_L0, e3, e4, e5, bif_true, some_bind]
          rw [wr_nat (by omega) (by omega)]
          rfl
        rw [whileO_next r1, whileO_next r2, Parse_loop _ _ hsl hb hws r.length 2 _ (Nat.le_refl _) (by simp; omega) ⟨by omega, by omega⟩]
        have hsum : sumQ (l.drop 2) ((a :: b :: r).drop 2) (1000 * dv a) = sumQ [100, 10, 1] r (1000 * dv a) := by
          rw [← hL]
          match r, hr3 with
          | [], _ => rfl
          | [_], _ => simp [sumQ]
          | [_, _], _ => simp [sumQ]
          | [_, _, _], _ => simp [sumQ]
        rw [hsum]
        have hp : parseQ (a :: b :: r) = finQ (sumQ [100, 10, 1] r (1000 * dv a)) := by simp [parseQ, h, hb2, hr3]
        rw [hp]
        cases sumQ [100, 10, 1] r (1000 * dv a) with
        | none => rfl
        | some q =>
          simp only [outQ, finQ, some_bind]
          by_cases hq : 1000 < q
          · simp [hq]
          · simp [hq]
      · have e4 : (b != 46) = true := by simp [hb2]
        simp [h, hb2, e4, parseQ]
    · simp [h, parseQ]
theorem Parse_long (s : Str) (hb : 5 < s.length) : qvalue_Parse s = some (0, false) := by
  have e : ((s == []) || decide (5 < (s.length : Int))) = true := by simp; right; omega
  simp only [qvalue_Parse, e, bif_true, some_bind]
theorem parseQ_long (s : Str) (hb : 5 < s.length) : parseQ s = (0, false) := by
  match s, hb with
  | a :: b :: r, hb => simp [parseQ]; intro _ _ h; simp at hb; omega
theorem Parse_all (s : Str) : qvalue_Parse s = some (parseQ s) := by
  by_cases h : s.length ≤ 5
  · exact Parse_eq s h
  · rw [Parse_long s (by omega), parseQ_long s (by omega)]

/-- One round of the reference's loop. -/
theorem Ref_round (s : Str) (q w : Int) (i : Nat) (hs : i < s.length) (hb : s.length ≤ 5) (hw : 0 ≤ w ∧ w ≤ 1000) (hq : 0 ≤ q ∧ q ≤ 1000000) :
    ref01_ParseQ_L0 s (q, w, (i : Int)) = some (if dg s[i] then .inl (q + w * dv s[i], w.tdiv 10, ((i + 1 : Nat) : Int)) else .inr (.inr (0, false))) := by
  have e0 : decide ((i : Int) < (s.length : Int)) = true := by simp; omega
  have e3 : xnth s (i : Int) = some s[i] := by rw [xnth_nat, List.getElem?_eq_getElem hs]
  simp only [ref01_ParseQ_L0, e0, e3, bif_true, some_bind, digit_eq]
  cases hd : dg s[i] with
  | false => rfl
  | true =>
    have hv := dv_lt _ hd
    have hv' : ((s[i] - 48).toNat : Int) = dv s[i] := rfl
    have hm : 0 ≤ w * dv s[i] ∧ w * dv s[i] ≤ 9000 := by
      refine ⟨Int.mul_nonneg hw.1 hv.1, ?_⟩
      have := Int.mul_le_mul hw.2 hv.2 hv.1 (by omega : (0 : Int) ≤ 1000)
      omega
    have ht : 0 ≤ w.tdiv 10 ∧ w.tdiv 10 ≤ 1000 := by
      rw [Int.tdiv_eq_ediv_of_nonneg hw.1]
      omega
    have e4 : xquo w 10 = some (w.tdiv 10) := by
      unfold xquo
      rw [if_neg (by decide), wr_nat (by omega) (by omega)]
    simp only [Bool.not_true, bif_false, some_bind, e4, hv']
    rw [Int.mul_comm (dv s[i]) w, wr_nat (n := w * dv s[i]) (by omega) (by omega), wr_nat (by omega) (by omega), wr_nat (by omega) (by omega)]
    simp
theorem Ref_end (s : Str) (q w : Int) (i : Nat) (hs : s.length ≤ i) : whileO (ref01_ParseQ_L0 s) (q, w, (i : Int)) = some (.inl q) := by
  refine whileO_done ?_
  have e0 : decide ((i : Int) < (s.length : Int)) = false := by simp; omega
  simp only [ref01_ParseQ_L0, e0, bif_false]
/-- The weights follow from one another. -/
def chain : List Int → Prop
  | [] => True
  | [_] => True
  | a :: b :: r => a.tdiv 10 = b ∧ chain (b :: r)
theorem Ref_loop (s : Str) (hb : s.length ≤ 5) : ∀ (ws : List Int) (i : Nat) (q : Int), chain ws → (∀ w ∈ ws, 0 ≤ w ∧ w ≤ 1000) → s.length ≤ i + ws.length → 0 ≤ q ∧ q ≤ 900000 - 9000 * (ws.length : Int) →
    ∀ w, (∀ x, ws.head? = some x → w = x) → whileO (ref01_ParseQ_L0 s) (q, w, (i : Int)) = some (outQ (sumQ ws (s.drop i) q)) := by
  intro ws
  induction ws with
  | nil =>
    intro i q _ _ hl _ w _
    rw [Ref_end s q w i (by simpa using hl)]
    rfl
  | cons x ws ih =>
    intro i q hc hw hl hq w hx
    obtain rfl : w = x := hx x rfl
    have hwx := hw w List.mem_cons_self
    by_cases hs : i < s.length
    · have hr := Ref_round s q w i hs hb hwx ⟨hq.1, by omega⟩
      rw [List.drop_eq_getElem_cons hs]
      cases hd : dg s[i] with
      | false =>
        rw [hd] at hr
        rw [whileO_done (by simpa using hr)]
        simp [sumQ, hd, outQ]
      | true =>
        rw [hd] at hr
        have hv := dv_lt _ hd
        have hm : 0 ≤ w * dv s[i] ∧ w * dv s[i] ≤ 9000 := by
          refine ⟨Int.mul_nonneg hwx.1 hv.1, ?_⟩
          have := Int.mul_le_mul hwx.2 hv.2 hv.1 (by omega : (0 : Int) ≤ 1000)
          omega
        have hlen : ((w :: ws).length : Int) = (ws.length : Int) + 1 := by simp
        rw [whileO_next (by simpa using hr), ← Int.natCast_one, ← Int.natCast_add]
        rw [ih (i + 1) _ ?_ (fun y hy => hw y (List.mem_cons_of_mem _ hy)) (by simp at hl; omega) ⟨by omega, by omega⟩ _ ?_]
        · simp [sumQ, hd]
        · cases ws with
          | nil => trivial
          | cons y ws => exact hc.2
        · intro y hy
          cases ws with
          | nil => cases hy
          | cons z ws => simp at hy; subst hy; exact hc.1
    · rw [Ref_end s q w i (by omega), List.drop_eq_nil_of_le (by omega)]
      rfl
theorem RefParse_all (s : Str) : ref01_ParseQ s = some (parseQ s) := by
  by_cases hb : s.length ≤ 5
  · match s, hb with
    | [], _ => rfl
    | [a], hb =>
      have e : ((decide ((([a] : Str).length : Int) < 1)) || decide (5 < (([a] : Str).length : Int))) = false := rfl
      have e1 : decide (1 < (([a] : Str).length : Int)) = false := rfl
      simp only [ref01_ParseQ, e, e1, bif_false, xnth_cons, some_bind, head_eq]
      by_cases h : a = 48 ∨ a = 49
      · obtain ⟨hd, hv⟩ := head_dg h
        have hv' : ((a - 48).toNat : Int) = dv a := rfl
        simp only [h, decide_true, Bool.not_true, bif_false, some_bind, hv']
        rw [wr_nat (n := dv a * 1000) (by omega) (by omega)]
        have := Ref_end [a] (dv a * 1000) 100 2 (by simp)
        rw [show (((2 : Nat) : Int)) = 2 from rfl] at this
        rw [this]
        simp only [some_bind, parseQ, h, if_true, finQ, Int.mul_comm (dv a) 1000]
        by_cases hq : 1000 < 1000 * dv a
        · simp [hq]
        · simp [hq]
      · simp [h, parseQ]
    | a :: b :: r, hb =>
      have hr3 : r.length ≤ 3 := by simp at hb; omega
      have e : ((decide (((a :: b :: r : Str).length : Int) < 1)) || decide (5 < ((a :: b :: r : Str).length : Int))) = false := by
        simp; omega
      have e1 : decide (1 < ((a :: b :: r : Str).length : Int)) = true := by simp; omega
      have e3 : xnth (a :: b :: r) 1 = some b := rfl
      simp only [ref01_ParseQ, e, e1, e3, bif_false, bif_true, xnth_cons, some_bind, head_eq]
      by_cases h : a = 48 ∨ a = 49
      · by_cases hb2 : b = 46
        · obtain ⟨hd, hv⟩ := head_dg h
          have e4 : (b != 46) = false := by simp [hb2]
          have hv' : ((a - 48).toNat : Int) = dv a := rfl
          simp only [h, e4, decide_true, Bool.not_true, bif_false, some_bind, hv']
          rw [wr_nat (n := dv a * 1000) (by omega) (by omega)]
          have hl := Ref_loop (a :: b :: r) hb [100, 10, 1] 2 (dv a * 1000) ⟨rfl, rfl, trivial⟩ (by decide) (by simp; omega) ⟨by omega, by simp; omega⟩ 100 (by intro x hx; simpa using hx)
          rw [show (((2 : Nat) : Int)) = 2 from rfl] at hl
          rw [hl]
          have hp : parseQ (a :: b :: r) = finQ (sumQ [100, 10, 1] r (1000 * dv a)) := by simp [parseQ, h, hb2, hr3]
          rw [hp, show (a :: b :: r).drop 2 = r from rfl, Int.mul_comm (dv a) 1000]
          cases sumQ [100, 10, 1] r (1000 * dv a) with
          | none => rfl
          | some q =>
            simp only [outQ, finQ, some_bind]
            by_cases hq : 1000 < q
            · simp [hq]
            · simp [hq]
        · have e4 : (b != 46) = true := by simp [hb2]
          simp [h, hb2, e4, parseQ]
      · simp [h, parseQ]
  · have e : ((decide ((s.length : Int) < 1)) || decide (5 < (s.length : Int))) = true := by simp; right; omega
    rw [parseQ_long s (by omega)]
    simp only [ref01_ParseQ, e, bif_true, some_bind]

/-! cutting a byte off at the end -/
theorem trimRightByte_eq (s : Str) (c : UInt8) (h : s.length ≤ 4 * big) : strings_trimRightByte s c = some (rtrim (· == c) s) := by
  unfold strings_trimRightByte
  rw [while_rtrim (strings_trimRightByte_L0 c) (· == c) (4 * big) ?_ rfl s.length s rfl h]
  · rfl
  · intro t x hx
    have e0 : decide ((0 : Int) < ((t ++ [x]).length : Int)) = true := by simp
    simp only [strings_trimRightByte_L0, e0, bif_true, wr_len1 (t ++ [x]) (by simp; omega), xnth_lastw, xsub_lastw, some_bind]
    cases x == c <;> rfl
theorem TrimRight_one (s : Str) (c : UInt8) (hc : c < 128) (h : s.length ≤ 4 * big) : strings_TrimRight s [c] = some (rtrim (· == c) s) := by
  unfold strings_TrimRight
  by_cases hs : s = []
  · subst hs; rfl
  · have e : ((s == []) || (([c] : Str) == [])) = false := by
      have : (s == []) = false := by simp [hs]
      rw [this]; rfl
    have e1 : (((([c] : Str).length : Int)) == 1) = true := rfl
    simp only [e, e1, bif_false, bif_true, xnth_cons, some_bind, hc, decide_true, trimRightByte_eq s c h]
/-! Format -/
def digs (q : Nat) : Str := [UInt8.ofNat (48 + q / 100), UInt8.ofNat (48 + q / 10 % 10), UInt8.ofNat (48 + q % 10)]
def fmtQ (q : Nat) : Str := if q = 0 then [48] else if q = 1000 then [49] else [48, 46] ++ rtrim (· == 48) (digs q)
theorem fmt_digits : ∀ q : Fin 1001, (xquo (q.val : Int) 100).bind (fun n6 => (xquo (q.val : Int) 10).bind fun n7 => (xrem n7 10).bind fun n8 => (xrem (q.val : Int) 10).bind fun n9 => some ([toU8 (wr (48 + n6)), toU8 (wr (48 + n8)), toU8 (wr (48 + n9))] : List UInt8)) = some (digs q.val) := by
  decide +kernel
theorem ref_digits : ∀ q : Fin 1001, 0 < q.val → q.val < 1000 → loopN ref01_Decimal_L0 6 (wr (1000 + (q.val : Int)), ([] : List UInt8), 0) = some (49 :: digs q.val) := by
  decide +kernel
theorem ref_zeros : ∀ q : Fin 1001, 0 < q.val → q.val < 1000 → loopN ref01_FormatQ_L0 6 (digs q.val) = some (rtrim (· == 48) (digs q.val)) := by
  decide +kernel
theorem parse_fmt : ∀ q : Fin 1001, parseQ (fmtQ q.val) = ((q.val : Int), true) := by
  decide +kernel

theorem digs_len (q : Nat) : (digs q).length = 3 := rfl
theorem nat_of {q : Int} (h0 : 0 ≤ q) (h1 : q ≤ 1000) : ∃ k : Fin 1001, q = (k.val : Int) := ⟨⟨q.toNat, by omega⟩, by simp; omega⟩
theorem Format_eq_q (q : Int) : qvalue_Format q = some (if 0 ≤ q ∧ q ≤ 1000 then fmtQ q.toNat else []) := by
  unfold qvalue_Format
  by_cases h : 0 ≤ q ∧ q ≤ 1000
  · obtain ⟨k, rfl⟩ := nat_of h.1 h.2
    have e : (decide ((k.val : Int) < 0) || decide (1000 < (k.val : Int))) = false := by simp; omega
    rw [e, if_pos h, bif_false, Int.toNat_natCast]
    by_cases h0 : k.val = 0
    · rw [h0]; rfl
    · by_cases h1 : k.val = 1000
      · rw [h1]; rfl
      · have e0 : ((k.val : Int) == 0) = false := by simp; omega
        have e1 : ((k.val : Int) == 1000) = false := by simp; omega
        rw [e0, e1, bif_false, bif_false]
        obtain ⟨n6, h6, hd⟩ := Option.bind_eq_some_iff.1 (fmt_digits k)
        obtain ⟨n7, h7, hd⟩ := Option.bind_eq_some_iff.1 hd
        obtain ⟨n8, h8, hd⟩ := Option.bind_eq_some_iff.1 hd
        obtain ⟨n9, h9, hd⟩ := Option.bind_eq_some_iff.1 hd
        rw [h6, some_bind, h7, some_bind, h8, some_bind, h9, some_bind, Option.some.inj hd, TrimRight_one (digs k.val) 48 (by decide) (by rw [digs_len]; decide), some_bind]
        have := rtrim_len (· == 48) (digs k.val)
        rw [digs_len] at this
        rw [xcat_some (by simp only [List.length_cons, List.length_nil, big]; omega), some_bind]
        simp only [fmtQ, h0, h1, if_false]
  · have e : (decide (q < 0) || decide (1000 < q)) = true := by simp; omega
    rw [e, if_neg h, bif_true]
theorem RefFormat_eq_q (q : Int) : ref01_FormatQ q = some (if 0 ≤ q ∧ q ≤ 1000 then fmtQ q.toNat else []) := by
  unfold ref01_FormatQ
  by_cases h : 0 ≤ q ∧ q ≤ 1000
  · obtain ⟨k, rfl⟩ := nat_of h.1 h.2
    have e : (decide ((k.val : Int) < 0) || decide (1000 < (k.val : Int))) = false := by simp; omega
    rw [e, if_pos h, bif_false, Int.toNat_natCast]
    by_cases h0 : k.val = 0
    · rw [h0]; rfl
    · by_cases h1 : k.val = 1000
      · rw [h1]; rfl
      · have e0 : ((k.val : Int) == 0) = false := by simp; omega
        have e1 : ((k.val : Int) == 1000) = false := by simp; omega
        rw [e0, e1, bif_false, bif_false]
        have hd : ref01_Decimal (wr (1000 + (k.val : Int))) = some (49 :: digs k.val) := by
          unfold ref01_Decimal
          rw [whileO_of (ref_digits k (by omega) (by omega)), some_bind]
          have e2 : decide (wr (1000 + (k.val : Int)) < 0) = false := by rw [wr_nat (by omega) (by omega)]; simp; omega
          rw [e2, bif_false]
        rw [hd, some_bind]
        have hs : xsub (49 :: digs k.val) 1 ((49 :: digs k.val).length : Int) = some (digs k.val) := by
          rw [xsub_some ⟨by omega, by simp [digs_len], by omega⟩]
          rfl
        rw [hs, some_bind, whileO_of (ref_zeros k (by omega) (by omega)), some_bind]
        have := rtrim_len (· == 48) (digs k.val)
        rw [digs_len] at this
        rw [xcat_some (by simp only [List.length_cons, List.length_nil, big]; omega), some_bind]
        simp only [fmtQ, h0, h1, if_false]
  · have e : (decide (q < 0) || decide (1000 < q)) = true := by simp; omega
    rw [e, if_neg h, bif_true]
theorem awake08 : law08_awake = some true := by
  have h1 : parseQ [48, 46, 48, 53] = (50, true) := by decide
  have h2 : fmtQ 500 = [48, 46, 53] := by decide
  simp only [law08_awake, Parse_all, h1, Format_eq_q, some_bind]
  simp [h2]
theorem QvalueParses_true (s : Str) : law08_QvalueParses s = some true := by
  unfold law08_QvalueParses
  rw [Parse_all, RefParse_all]
  cases decide (1000 < (s.length : Int))
  · simp [awake08]
  · rfl
theorem QvalueFormats_true (q : Int) : law08_QvalueFormats q = some true := by
  unfold law08_QvalueFormats
  rw [Format_eq_q, RefFormat_eq_q]
  simp only [some_bind, bne_self_eq_false, bif_false, Parse_all]
  by_cases h : 0 ≤ q ∧ q ≤ 1000
  · obtain ⟨k, rfl⟩ := nat_of h.1 h.2
    rw [if_pos h, Int.toNat_natCast, parse_fmt k]
    simp [awake08, h.2]
  · rw [if_neg h]
    have e : (decide (0 ≤ q) && decide (q ≤ 1000)) = false := by simp; omega
    rw [e]
    simp [parseQ, awake08]
theorem QvalueZeros_true (s : Str) : law08_QvalueZeros s = some true := by
  unfold law08_QvalueZeros
  by_cases h : 3 ≤ s.length ∧ s.length ≤ 4
  · have e : (decide (4 < (s.length : Int)) || decide ((s.length : Int) < 3)) = false := by simp; omega
    rw [e, bif_false, xcat_some (by simp only [List.length_cons, List.length_nil, big]; omega)]
    simp only [Parse_all, some_bind]
    have hp : parseQ (s ++ [48]) = parseQ s := by
      have d0 : dg 48 = true := rfl
      have v0 : dv 48 = 0 := rfl
      match s, h with
      | [a, b, c], _ => simp [parseQ, sumQ, d0, v0]
      | [a, b, c, d], _ => simp [parseQ, sumQ, d0, v0]
    rw [hp]
    simp [awake08]
  · have e : (decide (4 < (s.length : Int)) || decide ((s.length : Int) < 3)) = true := by simp; omega
    rw [e, bif_true]
end Go.Eng.Pure
