/- Layer 23: freshness: what the functions compute, in plain words; its laws. -/
import Derived.Test.YtdijehmmnpofjaaDoorDateP
import Derived.Test.YtdijehmmnpofjaaDoorCacheP
namespace Go.Eng.Pure
open Go Go.Eng
set_option linter.unusedVariables false
def sat (n : Int) : Int := cap (if n < 0 then 0 else n)
theorem sat_eq (a b : Int) (h : -1000000000000000000 ≤ a - b ∧ a - b ≤ 1000000000000000000) : freshness_saturate a b = some (sat (a - b)) := by
  unfold freshness_saturate
  rw [wr_nat h.1 h.2]; rfl
def firstD (l : List GField) (name : Str) : Int × Bool := dateS (firstF l name).1
theorem firstD_bd (l : List GField) (name : Str) : 0 ≤ (firstD l name).1 ∧ (firstD l name).1 ≤ 500000000000 := dateS_bd _
theorem dateS_nil : dateS [] = (0, false) := by decide
section
variable (l : List GField) (hl : l.length ≤ 1073741824) (hf : ∀ f ∈ l, smF f)
include hl hf
theorem first_eq (name : Str) (hn : name.length ≤ 1073741824) : freshness_first l name = some (firstD l name) := by
  unfold freshness_first
  rw [First_eq l name hl hf hn, some_bind, DParse_eq, some_bind]; rfl
theorem firstDate_eq (name : Str) (hn : name.length ≤ 1073741824) : ref19_firstDate l name = some (firstD l name) := by
  unfold ref19_firstDate
  rw [RFirst_eq l name hl hf hn, some_bind, RParseDate_eq]
  unfold firstD firstF
  cases getF l name with
  | nil => exact congrArg some dateS_nil.symm
  | cons v r => rfl
end
def expN : Str := [69, 120, 112, 105, 114, 101, 115]
def dateN : Str := [68, 97, 116, 101]
def ageN : Str := [65, 103, 101]
def lifeS (l : List GField) : Int :=
  if 0 ≤ (respF l).fSMaxAge then (respF l).fSMaxAge else if 0 ≤ (respF l).fMaxAge then (respF l).fMaxAge else if (firstD l expN).2 && (firstD l dateN).2 then sat ((firstD l expN).1 - (firstD l dateN).1) else 0
theorem lifetime_core (c : GControl) (a b : Int × Bool) (f : Option Int) (x : Int) (hx : f = some x) :
    (bif decide (0 ≤ c.fSMaxAge) then some c.fSMaxAge else (bif decide (0 ≤ c.fMaxAge) then some c.fMaxAge else (bif ((!a.2) || (!b.2)) then some 0 else f))) =
    some (if 0 ≤ c.fSMaxAge then c.fSMaxAge else if 0 ≤ c.fMaxAge then c.fMaxAge else if a.2 && b.2 then x else 0) := by
  subst hx
  by_cases h1 : 0 ≤ c.fSMaxAge
  · rw [decide_eq_true h1, if_pos h1]; rfl
  · rw [decide_eq_false h1, if_neg h1, bif_false]
    by_cases h2 : 0 ≤ c.fMaxAge
    · rw [decide_eq_true h2, if_pos h2]; rfl
    · rw [decide_eq_false h2, if_neg h2, bif_false]
      cases a.2 <;> cases b.2 <;> rfl
theorem Lifetime_eq (l : List GField) (hl : l.length ≤ 1073741824) (hf : ∀ f ∈ l, smF f) : freshness_Lifetime l = some (lifeS l) := by
  unfold freshness_Lifetime
  have a1 := firstD_bd l expN
  have a2 := firstD_bd l dateN
  rw [Response_eq l hl hf, some_bind, first_eq l hl hf _ (by decide), some_bind, first_eq l hl hf _ (by decide), some_bind, sat_eq _ _ ⟨by unfold expN dateN at *; omega, by unfold expN dateN at *; omega⟩, some_bind]
  exact lifetime_core _ _ _ _ _ rfl
theorem RLifetime_eq (l : List GField) (hl : l.length ≤ 1073741824) (hf : ∀ f ∈ l, smF f) : ref19_Lifetime l = some (lifeS l) := by
  unfold ref19_Lifetime
  have a1 := firstD_bd l expN
  have a2 := firstD_bd l dateN
  rw [RResponse_eq l hl hf, some_bind, firstDate_eq l hl hf _ (by decide), some_bind, firstDate_eq l hl hf _ (by decide), some_bind, wr_nat (n := (firstD l [69, 120, 112, 105, 114, 101, 115]).1 - _) (by unfold expN dateN at *; omega) (by unfold expN dateN at *; omega)]
  exact lifetime_core _ _ _ _ _ rfl
def dateOfS (l : List GField) (received : Int) : Int := if (firstD l dateN).2 then (firstD l dateN).1 else received
theorem Date_eq (l : List GField) (hl : l.length ≤ 1073741824) (hf : ∀ f ∈ l, smF f) (r : Int) : freshness_Date l r = some (dateOfS l r) := by
  unfold freshness_Date
  rw [first_eq l hl hf _ (by decide), some_bind]
  unfold dateOfS dateN
  cases (firstD l [68, 97, 116, 101]).2 <;> rfl
theorem RDate_eq (l : List GField) (hl : l.length ≤ 1073741824) (hf : ∀ f ∈ l, smF f) (r : Int) : ref19_DateOf l r = some (dateOfS l r) := by
  unfold ref19_DateOf
  rw [firstDate_eq l hl hf _ (by decide), some_bind]
  unfold dateOfS dateN
  cases (firstD l [68, 97, 116, 101]).2 <;> rfl
/-- The age, where the times are in order. -/
def ageN0 (l : List GField) (requested received now : Int) : Int :=
  max (max 0 (received - dateOfS l received)) ((num (firstF l ageN).1).1 + received - requested) + now - received
def ageS (l : List GField) (requested received now : Int) : Int :=
  if requested < 0 ∨ received < requested ∨ now < received ∨ 1099511627776 < now then 2147483647 else cap (ageN0 l requested received now)
theorem max_eq (a b : Int) : (if a < b then b else a) = max a b := by
  rw [Int.max_def]; split <;> split <;> omega
theorem guard4 (a b c d : Prop) [Decidable a] [Decidable b] [Decidable c] [Decidable d] : (((decide a || decide b) || decide c) || decide d) = decide (a ∨ b ∨ c ∨ d) := by
  by_cases a <;> by_cases b <;> by_cases c <;> by_cases d <;> simp [*]
theorem ageN0_bd (l : List GField) (q r n : Int) (h : ¬ (q < 0 ∨ r < q ∨ n < r ∨ 1099511627776 < n)) : n - r ≤ ageN0 l q r n ∧ ageN0 l q r n ≤ 10000000000000 := by
  have a2 := firstD_bd l dateN
  have b := num_bd (firstF l ageN).1
  unfold ageN0 dateOfS
  split <;> omega
theorem age_core (l : List GField) (q r n : Int) (h : ¬ (q < 0 ∨ r < q ∨ n < r ∨ 1099511627776 < n)) :
    (wr ((wr ((if (if 0 < (wr (r - dateOfS l r)) then (wr (r - dateOfS l r)) else 0) < (wr ((wr ((num (firstF l ageN).1).1 + r)) - q)) then (wr ((wr ((num (firstF l ageN).1).1 + r)) - q)) else (if 0 < (wr (r - dateOfS l r)) then (wr (r - dateOfS l r)) else 0)) + n)) - r)) = ageN0 l q r n := by
  have a2 := firstD_bd l dateN
  have b := num_bd (firstF l ageN).1
  have hd : -500000000000 ≤ r - dateOfS l r ∧ r - dateOfS l r ≤ 1099511627776 := by unfold dateOfS; split <;> omega
  have e1 : wr (r - dateOfS l r) = r - dateOfS l r := wr_nat (by omega) (by omega)
  have e2 : wr ((num (firstF l ageN).1).1 + r) = (num (firstF l ageN).1).1 + r := wr_nat (by omega) (by omega)
  have e3 : wr ((num (firstF l ageN).1).1 + r - q) = (num (firstF l ageN).1).1 + r - q := wr_nat (by omega) (by omega)
  rw [e1, e2, e3, max_eq, max_eq]
  unfold ageN0
  rw [wr_nat (n := max (max 0 (r - dateOfS l r)) ((num (firstF l ageN).1).1 + r - q) + n) (by omega) (by omega), wr_nat (by omega) (by omega)]
theorem Age_eq (l : List GField) (hl : l.length ≤ 1073741824) (hf : ∀ f ∈ l, smF f) (q r n : Int) : freshness_Age l q r n = some (ageS l q r n) := by
  unfold freshness_Age ageS
  rw [guard4]
  by_cases h : q < 0 ∨ r < q ∨ n < r ∨ 1099511627776 < n
  · rw [decide_eq_true h, if_pos h]; rfl
  · have hs := firstF_sm l ageN 1073741824 (fun f h => (hf f h).2)
    unfold ageN at hs
    rw [decide_eq_false h, if_neg h, bif_false, First_eq l _ hl hf (by decide), some_bind, Number_eq _ hs, some_bind, Date_eq l hl hf r, some_bind]
    have hc := age_core l q r n h
    have hb := ageN0_bd l q r n h
    unfold ageN at hc
    rw [hc, sat_eq _ _ ⟨by omega, by omega⟩, some_bind]
    unfold sat
    rw [Int.sub_zero, if_neg (by omega)]
theorem RAge_eq (l : List GField) (hl : l.length ≤ 1073741824) (hf : ∀ f ∈ l, smF f) (q r n : Int) : ref19_Age l q r n = some (ageS l q r n) := by
  unfold ref19_Age ageS
  rw [guard4]
  by_cases h : q < 0 ∨ r < q ∨ n < r ∨ 1099511627776 < n
  · rw [decide_eq_true h, if_pos h]; rfl
  · have hs := firstF_sm l ageN 1073741824 (fun f h => (hf f h).2)
    unfold ageN at hs
    rw [decide_eq_false h, if_neg h, bif_false, RFirst_eq l _ hl hf (by decide), some_bind, RNumber_eq _ hs, some_bind, RDate_eq l hl hf r, some_bind]
    have hc := age_core l q r n h
    unfold ageN at hc
    rw [hc]; rfl
/-! Fresh -/
def freshS (lt age : Int) (q r : GControl) : Bool :=
  if lt < 0 ∨ 2147483647 < lt ∨ age < 0 ∨ 2147483647 < age then false
  else if q.fNoCache || r.fNoCache || (q.fMaxAge != -1 && decide (q.fMaxAge < age)) then false
  else if age < lt then (q.fMinFresh == -1 || decide (q.fMinFresh ≤ lt - age))
  else if r.fMustRevalidate || r.fProxyRevalidate || r.fSMaxAge != -1 || q.fMinFresh != -1 then false
  else (q.fMaxStale != -1 && decide (age - lt ≤ q.fMaxStale))
theorem Fresh_eq (lt age : Int) (q r : GControl) : freshness_Fresh lt age q r = some (freshS lt age q r) := by
  unfold freshness_Fresh freshS
  rw [guard4]
  by_cases h : lt < 0 ∨ 2147483647 < lt ∨ age < 0 ∨ 2147483647 < age
  · rw [decide_eq_true h, if_pos h]; rfl
  · rw [decide_eq_false h, if_neg h, bif_false, wr_nat (n := lt - age) (by omega) (by omega), wr_nat (n := age - lt) (by omega) (by omega)]
    by_cases h2 : age < lt
    · rw [decide_eq_true h2, if_pos h2]
      cases q.fNoCache <;> cases r.fNoCache <;> cases q.fMaxAge != -1 <;> cases decide (q.fMaxAge < age) <;> rfl
    · rw [decide_eq_false h2, if_neg h2]
      cases q.fNoCache <;> cases r.fNoCache <;> cases q.fMaxAge != -1 <;> cases decide (q.fMaxAge < age) <;> first | rfl | (cases r.fMustRevalidate <;> cases r.fProxyRevalidate <;> cases r.fSMaxAge != -1 <;> cases q.fMinFresh != -1 <;> rfl)
theorem RFresh_eq (lt age : Int) (q r : GControl) : ref19_Fresh lt age q r = some (freshS lt age q r) := by
  unfold ref19_Fresh freshS
  rw [guard4]
  by_cases h : lt < 0 ∨ 2147483647 < lt ∨ age < 0 ∨ 2147483647 < age
  · rw [decide_eq_true h, if_pos h]; rfl
  · rw [decide_eq_false h, if_neg h, bif_false, wr_nat (n := lt - age) (by omega) (by omega), wr_nat (n := age - lt) (by omega) (by omega)]
    by_cases h2 : age < lt
    · rw [decide_eq_true h2, if_pos h2]
      cases q.fNoCache <;> cases r.fNoCache <;> cases q.fMaxAge != -1 <;> cases decide (q.fMaxAge < age) <;> rfl
    · rw [decide_eq_false h2, if_neg h2]
      cases q.fNoCache <;> cases r.fNoCache <;> cases q.fMaxAge != -1 <;> cases decide (q.fMaxAge < age) <;> first | rfl | (cases r.fMustRevalidate <;> cases r.fProxyRevalidate <;> cases r.fSMaxAge != -1 <;> cases q.fMinFresh != -1 <;> rfl)
/-! the laws -/
theorem awake23 : law23_awake = some true := by
  unfold law23_awake law23_none
  have hF : ∀ f ∈ ([⟨[67, 97, 99, 104, 101, 45, 67, 111, 110, 116, 114, 111, 108], [109, 97, 120, 45, 97, 103, 101, 61, 54, 48]⟩, ⟨[65, 103, 101], [49, 48]⟩] : List GField), smF f := by
    intro f hf
    simp only [List.mem_cons, List.not_mem_nil, or_false] at hf
    rcases hf with rfl | rfl <;> exact ⟨by decide, by decide⟩
  rw [Lifetime_eq _ (by decide) hF, some_bind, Age_eq _ (by decide) hF, some_bind]
  simp only [some_bind, Fresh_eq]
  decide
theorem FreshnessLifetimes_true (l : List GField) (r : Int) : law23_FreshnessLifetimes l r = some true := by
  unfold law23_FreshnessLifetimes
  rw [keep_Fields_eq, some_bind]
  cases hk : keepF l with
  | false => rfl
  | true =>
    obtain ⟨h1, h2⟩ := smF_of hk
    rw [Lifetime_eq l h1 h2, RLifetime_eq l h1 h2, Date_eq l h1 h2, RDate_eq l h1 h2]
    simp [awake23]
theorem FreshnessAges_true (l : List GField) (q r n : Int) : law23_FreshnessAges l q r n = some true := by
  unfold law23_FreshnessAges
  rw [keep_Fields_eq, some_bind]
  cases hk : keepF l with
  | false => rfl
  | true =>
    obtain ⟨h1, h2⟩ := smF_of hk
    rw [Age_eq l h1 h2, RAge_eq l h1 h2]
    simp [awake23]
theorem FreshnessDecides_true (lt age : Int) (q r : GControl) : law23_FreshnessDecides lt age q r = some true := by
  unfold law23_FreshnessDecides
  rw [Fresh_eq, RFresh_eq]
  simp [awake23]
theorem FreshnessGrows_true (l : List GField) (q r n m : Int) : law23_FreshnessGrows l q r n m = some true := by
  unfold law23_FreshnessGrows
  rw [keep_Fields_eq, some_bind]
  cases hk : keepF l with
  | false => rfl
  | true =>
    obtain ⟨h1, h2⟩ := smF_of hk
    by_cases h : q < 0 ∨ r < q ∨ n < r ∨ 1099511627776 < n
    · have e : (((((((!true) || (decide (q < 0))) || (decide (r < q))) || (decide (n < r))) || (decide (1099511627776 < n))) || (decide (m < 0))) || (decide ((wr (1099511627776 - n)) < m))) = true := by
        simp only [Bool.or_eq_true, decide_eq_true_eq, Bool.not_true, Bool.false_eq_true, false_or]
        omega
      rw [e]; rfl
    · have e0 : wr (1099511627776 - n) = 1099511627776 - n := wr_nat (by omega) (by omega)
      rw [e0]
      by_cases hm : m < 0 ∨ 1099511627776 - n < m
      · have e : (((((((!true) || (decide (q < 0))) || (decide (r < q))) || (decide (n < r))) || (decide (1099511627776 < n))) || (decide (m < 0))) || (decide ((1099511627776 - n) < m))) = true := by
          simp only [Bool.or_eq_true, decide_eq_true_eq, Bool.not_true, Bool.false_eq_true, false_or]
          omega
        rw [e]; rfl
      · have e : (((((((!true) || (decide (q < 0))) || (decide (r < q))) || (decide (n < r))) || (decide (1099511627776 < n))) || (decide (m < 0))) || (decide ((1099511627776 - n) < m))) = false := by
          rw [Bool.eq_false_iff]
          simp only [ne_eq, Bool.or_eq_true, decide_eq_true_eq, Bool.not_true, Bool.false_eq_true, false_or]
          omega
        have e1 : wr (n + m) = n + m := wr_nat (by omega) (by omega)
        have e2 : wr (n - r) = n - r := wr_nat (by omega) (by omega)
        have h' : ¬ (q < 0 ∨ r < q ∨ n + m < r ∨ 1099511627776 < n + m) := by omega
        have hb := ageN0_bd l q r n h
        have hadd : ageN0 l q r (n + m) = ageN0 l q r n + m := by unfold ageN0; omega
        rw [e, bif_false, Age_eq l h1 h2, some_bind, e1, Age_eq l h1 h2, some_bind, e2]
        unfold ageS
        rw [if_neg h, if_neg h', hadd]
        have hc := cap_bd (n := ageN0 l q r n) (by omega)
        have e3 : wr (cap (ageN0 l q r n) + m) = cap (ageN0 l q r n) + m := wr_nat (by omega) (by omega)
        rw [e3]
        have c1 : (cap (ageN0 l q r n + m) == (if 2147483647 < cap (ageN0 l q r n) + m then 2147483647 else cap (ageN0 l q r n) + m)) = true := by
          rw [beq_iff_eq]; unfold cap; split <;> split <;> omega
        have c2 : decide ((if 2147483647 < n - r then 2147483647 else n - r) ≤ cap (ageN0 l q r n)) = true := by
          apply decide_eq_true; unfold cap; split <;> split <;> omega
        have c3 : decide (cap (ageN0 l q r n) ≤ 2147483647) = true := decide_eq_true hc.2
        rw [c1, c2, c3, awake23]; rfl
theorem FreshnessFalls_true (lt age older : Int) (q r : GControl) : law23_FreshnessFalls lt age older q r = some true := by
  unfold law23_FreshnessFalls
  by_cases h : age < 0 ∨ older < age ∨ lt < 0
  · have e : (((decide (age < 0)) || (decide (older < age))) || (decide (lt < 0))) = true := by simp only [Bool.or_eq_true, decide_eq_true_eq]; omega
    rw [e]; rfl
  · have e : (((decide (age < 0)) || (decide (older < age))) || (decide (lt < 0))) = false := by rw [Bool.eq_false_iff]; simp only [ne_eq, Bool.or_eq_true, decide_eq_true_eq]; omega
    rw [e, bif_false, Fresh_eq, some_bind, Fresh_eq]
    cases hx : freshS lt older q r with
    | false => simp [awake23]
    | true =>
      have : freshS lt age q r = true := by
        unfold freshS at hx ⊢
        split at hx
        · cases hx
        · rename_i g1
          rw [if_neg (by omega)]
          split at hx
          · cases hx
          · rename_i g2
            have g2' : ¬ (q.fNoCache || r.fNoCache || (q.fMaxAge != -1 && decide (q.fMaxAge < age))) = true := by
              simp only [Bool.or_eq_true, Bool.and_eq_true, decide_eq_true_eq, not_or, not_and] at g2 ⊢
              exact ⟨g2.1, fun hh => by have := g2.2 hh; omega⟩
            rw [if_neg g2']
            by_cases g3 : age < lt
            · rw [if_pos g3]
              split at hx
              · simp only [Bool.or_eq_true, beq_iff_eq, decide_eq_true_eq] at hx ⊢; omega
              · split at hx
                · cases hx
                · rename_i g5
                  simp only [Bool.or_eq_true, not_or, bne_iff_ne, ne_eq, Decidable.not_not] at g5
                  rw [g5.2]; rfl
            · rw [if_neg g3]
              rw [if_neg (by omega)] at hx
              split at hx
              · cases hx
              · rename_i g5
                rw [if_neg g5]
                simp only [Bool.and_eq_true, decide_eq_true_eq] at hx ⊢
                exact ⟨hx.1, by omega⟩
      rw [this]; simp [awake23]
theorem FreshnessStrict_true (lt age : Int) (q r : GControl) : law23_FreshnessStrict lt age q r = some true := by
  unfold law23_FreshnessStrict
  rw [Fresh_eq, some_bind]
  cases hx : freshS lt age q r with
  | false => simp [awake23]
  | true =>
    unfold freshS at hx
    split at hx
    · cases hx
    · rename_i g1
      split at hx
      · cases hx
      · rename_i g2
        have g2' : (q.fNoCache || r.fNoCache || (q.fMaxAge != -1 && decide (q.fMaxAge < age))) = false := by simpa using g2
        rw [Bool.true_and, g2', bif_false, wr_nat (n := lt - age) (by omega) (by omega), wr_nat (n := age - lt) (by omega) (by omega)]
        by_cases g3 : age < lt
        · rw [if_pos g3] at hx
          have e1 : decide (lt ≤ age) = false := decide_eq_false (by omega)
          rw [e1]
          simp only [Bool.and_false, Bool.false_and, bif_false, Bool.not_true, Bool.false_or, hx, bif_true, some_bind, awake23]
        · rw [if_neg g3] at hx
          split at hx
          · cases hx
          · rename_i g5
            simp only [Bool.or_eq_true, not_or, bne_iff_ne, ne_eq, Decidable.not_not] at g5
            simp only [Bool.and_eq_true, decide_eq_true_eq, bne_iff_ne, ne_eq] at hx
            have e2 : (r.fMustRevalidate || r.fProxyRevalidate || r.fSMaxAge != -1 || q.fMaxStale == -1 || decide (q.fMaxStale < age - lt)) = false := by
              rw [Bool.eq_false_iff]
              simp only [ne_eq, Bool.or_eq_true, not_or, bne_iff_ne, Decidable.not_not, beq_iff_eq, decide_eq_true_eq]
              exact ⟨⟨⟨⟨g5.1.1.1, g5.1.1.2⟩, g5.1.2⟩, hx.1⟩, by omega⟩
            rw [e2, g5.2]
            simp [awake23]
end Go.Eng.Pure
