/- Layer 24: which responses may be stored. -/
import Derived.Test.YtmeemcjmhbgbdaaGreatDoorVaryR
import Derived.Test.YtmeemcjmhbgbdaaGreatDoorCacheLaw
import Derived.Test.YtmeemcjmhbgbdaaGreatDoorFreshP
import Derived.Test.YtmeemcjmhbgbdaaGreatDoorEtagLaw
namespace Go.Eng.Pure
open Go Go.Eng
set_option linter.unusedVariables false
/-- Fields that are not long. -/
def mdL (l : List GField) : Prop := l.length ≤ 100000 ∧ ∀ f ∈ l, f.fName.length ≤ 1000 ∧ f.fValue.length ≤ 1000
theorem mdL_F {l : List GField} (h : mdL l) : l.length ≤ 1073741824 ∧ ∀ f ∈ l, smF f := ⟨by have := h.1; omega, fun f hf => by have := h.2 f hf; exact ⟨by omega, by omega⟩⟩
theorem mdL_sm {l : List GField} (h : smL l) : mdL l := ⟨by have := h.1; omega, fun f hf => by have := h.2 f hf; omega⟩
theorem NamesM_eq (l : List GField) (hl : mdL l) : vary_Names l = some (namesF l) := by
  obtain ⟨h1, h2⟩ := mdL_F hl
  have a1 := allM_len l varyN
  have a2 := allM_sm l varyN 1000 fun f hf => (hl.2 f hf).2
  unfold vary_Names namesF
  rw [All_eq l _ h1 h2 (by decide), some_bind]
  unfold varyN at a1 a2 ⊢
  generalize allM l [86, 97, 114, 121] = ms at a1 a2 ⊢
  rw [show decide ((64 : Int) ≤ (ms.length : Int)) = decide (64 ≤ ms.length) from le_nat 64 _]
  by_cases hc : 64 ≤ ms.length
  · rw [decide_eq_true hc, if_pos (.inl hc)]; rfl
  · have := Names_loop ms a1 (fun m h => by have := a2 m h; omega) ms.length 0 [] (by omega) (by simp)
    rw [decide_eq_false hc, bif_false, show (0 : Int) = ((0 : Nat) : Int) from rfl, this, some_bind, List.drop_zero]
    cases hb : ms.any badN with
    | true => simp
    | false =>
      have hlen : (ms.map lower).length ≤ big := by simp only [List.length_map, big]; omega
      simp only [Bool.false_eq_true, if_false, slices_Sort_string, slices_Compact_string, if_pos hlen, some_bind, hc, or_self, List.nil_append]
def lmN : Str := [76, 97, 115, 116, 45, 77, 111, 100, 105, 102, 105, 101, 100]
def validF (l : List GField) : Bool := (Etag.ofF l).2 || (firstD l lmN).2
theorem Validator_eq (l : List GField) (hl : mdL l) : storable_Validator l = some (validF l) := by
  obtain ⟨h1, h2⟩ := mdL_F hl
  unfold storable_Validator validF
  rw [Etag.Of_eq l h1 h2, some_bind, First_eq l _ h1 h2 (by decide), some_bind, DParse_eq, some_bind]
  unfold firstD lmN
  cases (Etag.ofF l).2 <;> rfl
def unsafeF (m : Str) : Bool := (((m != [71, 69, 84]) && (m != [72, 69, 65, 68])) && (m != [79, 80, 84, 73, 79, 78, 83])) && (m != [84, 82, 65, 67, 69])
theorem Unsafe_eq (m : Str) : storable_Unsafe m = some (unsafeF m) := rfl
def rangeN : Str := [82, 97, 110, 103, 101]
def authN : Str := [65, 117, 116, 104, 111, 114, 105, 122, 97, 116, 105, 111, 110]
def stor (m s ns pr nq nm rg au ex lv : Bool) : Bool :=
  bif m || s then false else bif (ns || pr) || nq then false else bif !nm then false else bif rg then false else bif au && ex then false else lv
/-- What Storable answers. -/
def storF (q : GRequest) (r : GResponse) : Bool :=
  stor (q.fMethod != [71, 69, 84]) (r.fStatus != 200) (respF r.fFields).fNoStore (respF r.fFields).fPrivate (reqF q.fFields).fNoStore (namesF r.fFields).2 (hasF q.fFields rangeN) (hasF q.fFields authN)
    (((!(respF r.fFields).fMustRevalidate) && (!(respF r.fFields).fPublic)) && ((respF r.fFields).fSMaxAge == (-1))) (decide (0 < lifeS r.fFields) || validF r.fFields)
theorem Storable_eq (q : GRequest) (r : GResponse) (hq : mdL q.fFields) (hr : mdL r.fFields) : storable_Storable q r = some (storF q r) := by
  obtain ⟨q1, q2⟩ := mdL_F hq
  obtain ⟨r1, r2⟩ := mdL_F hr
  unfold storable_Storable storF
  rw [Response_eq _ r1 r2, some_bind, Request_eq _ q1 q2, some_bind, NamesM_eq _ hr, some_bind, Has_eq _ _ q1 q2 (by decide), some_bind, Has_eq _ _ q1 q2 (by decide), some_bind, Lifetime_eq _ r1 r2, some_bind, Validator_eq _ hr, some_bind]
  unfold rangeN authN
  generalize (q.fMethod != [71, 69, 84]) = a1
  generalize (r.fStatus != 200) = a2
  generalize ((respF r.fFields).fSMaxAge == (-1)) = a3
  generalize (respF r.fFields).fNoStore = a4
  generalize (respF r.fFields).fPrivate = a5
  generalize (respF r.fFields).fMustRevalidate = a6
  generalize (respF r.fFields).fPublic = a7
  generalize (reqF q.fFields).fNoStore = a8
  generalize (namesF r.fFields).2 = a9
  generalize hasF q.fFields [82, 97, 110, 103, 101] = a10
  generalize hasF q.fFields [65, 117, 116, 104, 111, 114, 105, 122, 97, 116, 105, 111, 110] = a11
  generalize decide (0 < lifeS r.fFields) = a12
  generalize validF r.fFields = a13
  unfold stor
  cases a1
  case true => rfl
  cases a2
  case true => rfl
  cases a4
  case true => rfl
  cases a5
  case true => rfl
  cases a8
  case true => rfl
  cases a9
  case false => rfl
  cases a10
  case true => rfl
  cases a11 <;> cases a6 <;> cases a7 <;> cases a3 <;> cases a12 <;> rfl
def keepQ (q : GRequest) : Bool := ((decide (q.fMethod.length ≤ 100) && decide (q.fTarget.length ≤ 2100)) && keepF q.fFields) && decide (q.fBody.length ≤ 2000)
def keepR (r : GResponse) : Bool := (decide (r.fReason.length ≤ 2100) && keepF r.fFields) && decide (r.fBody.length ≤ 2000)
theorem keep_Request_eq (q : GRequest) : keep_Request q = some (keepQ q) := by
  unfold keep_Request keepQ
  rw [keep_Fields_eq, some_bind, show ((100 : Int)) = ((100 : Nat) : Int) from rfl, show ((2100 : Int)) = ((2100 : Nat) : Int) from rfl, show ((2000 : Int)) = ((2000 : Nat) : Int) from rfl, le_nat, le_nat, le_nat]
  cases decide (q.fMethod.length ≤ 100) && decide (q.fTarget.length ≤ 2100) <;> rfl
theorem keep_Response_eq (r : GResponse) : keep_Response r = some (keepR r) := by
  unfold keep_Response keepR
  rw [keep_Fields_eq, some_bind, show ((2100 : Int)) = ((2100 : Nat) : Int) from rfl, show ((2000 : Int)) = ((2000 : Nat) : Int) from rfl, le_nat, le_nat]
  cases decide (r.fReason.length ≤ 2100) <;> rfl
theorem keepQ_sm {q : GRequest} (h : keepQ q = true) : smL q.fFields ∧ q.fMethod.length ≤ 100 ∧ q.fTarget.length ≤ 2100 ∧ q.fBody.length ≤ 2000 := by
  simp only [keepQ, Bool.and_eq_true, decide_eq_true_eq] at h
  exact ⟨keepF_sm h.1.2, h.1.1.1, h.1.1.2, h.2⟩
theorem keepR_sm {r : GResponse} (h : keepR r = true) : smL r.fFields ∧ r.fReason.length ≤ 2100 ∧ r.fBody.length ≤ 2000 := by
  simp only [keepR, Bool.and_eq_true, decide_eq_true_eq] at h
  exact ⟨keepF_sm h.1.2, h.1.1, h.2⟩
theorem mdL_nil : mdL [] := ⟨by decide, by intro f hf; cases hf⟩
theorem awake24 : law24_awake = some true := by
  unfold law24_awake
  have hF : mdL ([⟨[67, 97, 99, 104, 101, 45, 67, 111, 110, 116, 114, 111, 108], [109, 97, 120, 45, 97, 103, 101, 61, 49]⟩] : List GField) := by
    refine ⟨by decide, ?_⟩
    intro f hf
    simp only [List.mem_singleton] at hf
    subst hf; exact ⟨by decide, by decide⟩
  rw [Storable_eq _ _ mdL_nil hF, some_bind, Storable_eq _ _ mdL_nil mdL_nil, some_bind, Unsafe_eq, some_bind]
  decide
theorem StorableNeeds_true (q : GRequest) (r : GResponse) : law24_StorableNeeds q r = some true := by
  unfold law24_StorableNeeds
  rw [keep_Request_eq, some_bind, keep_Response_eq, some_bind]
  cases hq : keepQ q with
  | false => rfl
  | true =>
    cases hr : keepR r with
    | false => rfl
    | true =>
      have hr' := mdL_sm (keepR_sm hr).1
      obtain ⟨r1, r2⟩ := mdL_F hr'
      rw [Storable_eq q r (mdL_sm (keepQ_sm hq).1) hr', RLifetime_eq _ r1 r2, Validator_eq _ hr', Unsafe_eq]
      cases hs : storF q r with
      | false => simp [awake24]
      | true =>
        unfold storF stor at hs
        have hm : q.fMethod = [71, 69, 84] := by
          cases hm : q.fMethod != [71, 69, 84] with
          | false => simpa using hm
          | true => rw [hm] at hs; cases hs
        have hst : r.fStatus = 200 := by
          cases hm : r.fStatus != 200 with
          | false => simpa using hm
          | true => rw [hm] at hs; simp at hs
        have hv : (decide (0 < lifeS r.fFields) || validF r.fFields) = true := by
          cases hv : (decide (0 < lifeS r.fFields) || validF r.fFields) with
          | true => rfl
          | false =>
            rw [hv] at hs
            simp only [cond_eq_ite, ite_self] at hs
            simp at hs
        rw [hm, hst]
        simp only [Bool.not_true, bif_false, some_bind, beq_self_eq_true, Bool.and_self, bif_true]
        cases hd : decide (0 < lifeS r.fFields) with
        | true => simp only [bif_true, some_bind, awake24]; decide
        | false =>
          rw [hd] at hv
          simp only [Bool.false_or] at hv
          simp only [bif_false, some_bind, hv, bif_true, awake24]; decide
end Go.Eng.Pure
