/- Layer 24: which responses may be stored. -/
import Derived.Test.YtmeemcjmhbgbdaaDoorVaryR
import Derived.Test.YtmeemcjmhbgbdaaDoorCacheLaw
import Derived.Test.YtmeemcjmhbgbdaaDoorFreshP
import Derived.Test.YtmeemcjmhbgbdaaDoorEtagLaw
namespace Go.Eng.Pure
open Go Go.Eng
set_option linter.unusedVariables false
/-- Fields that are not long. -/
def mdL (l : List GField) : Prop := l.length ≤ 100000 ∧ ∀ f ∈ l, f.fName.length ≤ 1000 ∧ f.fValue.length ≤ 1000
theorem mdL_F {l : List GField} (h : mdL l) : l.length ≤ 1073741824 ∧ ∀ f ∈ l, smF f := ⟨by have := h.1; omega, fun f hf => by have := h.2 f hf; exact ⟨by omega, by omega⟩⟩
theorem mdL_sm {l : List GField} (h : smL l) : mdL l := ⟨by have := h.1; omega, fun f hf => by have := h.2 f hf; omega⟩
theorem NamesM_eq (l : List GField) (hl : mdL l) : vary_Names l = some (namesF l) := by
  obtain ⟨h1, h2⟩ := mdL_F hl
  have a1 := allM_len l varyN
  have a2 := allM_sm l varyN 1000 fun f hf => (hl.2 f hf).2
  unfold vary_Names namesF
  rw [All_eq l _ h1 h2 (by decide), some_bind]
  unfold varyN at a1 a2 ⊢
  generalize allM l [86, 97, 114, 121] = ms at a1 a2 ⊢
  rw [show decide ((64 : Int) ≤ (ms.length : Int)) = decide (64 ≤ ms.length) from le_nat 64 _]
  by_cases hc : 64 ≤ ms.length
  · rw [decide_eq_true hc, if_pos (.inl hc)]; rfl
  · have := Names_loop ms a1 (fun m h => by have := a2 m h; omega) ms.length 0 [] (by omega) (by simp)
    rw [decide_eq_false hc, bif_false, show (0 : Int) = ((0 : Nat) : Int) from rfl, this, some_bind, List.drop_zero]
    cases hb : ms.any badN with
    | true => simp
    | false =>
      have hlen : (ms.map lower).length ≤ big := by simp only [List.length_map, big]; omega
      simp only [Bool.false_eq_true, if_false, slices_Sort_string, slices_Compact_string, if_pos hlen, some_bind, hc, or_self, List.nil_append]
def lmN : Str := [76, 97, 115, 116, 45, 77, 111, 100, 105, 102, 105, 101, 100]
def validF (l : List GField) : Bool := (Etag.ofF l).2 || (firstD l lmN).2
theorem Validator_eq (l : List GField) (hl : mdL l) : storable_Validator l = some (validF l) := by
  obtain ⟨h1, h2⟩ := mdL_F hl
  unfold storable_Validator validF
  rw [Etag.Of_eq l h1 h2, some_bind, First_eq l _ h1 h2 (by decide), some_bind, DParse_eq, some_bind]
  unfold firstD lmN
  cases (Etag.ofF l).2 <;> rfl
def unsafeF (m : Str) : Bool := (((m != [71, 69, 84]) && (m != [72, 69, 65, 68])) && (m != [79, 80, 84, 73, 79, 78, 83])) && (m != [84, 82, 65, 67, 69])
theorem Unsafe_eq (m : Str) : storable_Unsafe m = some (unsafeF m) := rfl
def rangeN : Str := [82, 97, 110, 103, 101]
def authN : Str := [65, 117, 116, 104, 111, 114, 105, 122, 97, 116, 105, 111, 110]
def stor (m s ns pr nq nm rg au ex lv : Bool) : Bool :=
  bif m || s then false else bif (ns || pr) || nq then false else bif !nm then false else bif rg then false else bif au && ex then false else lv
/-- What Storable answers. -/
def storF (q : GRequest) (r : GResponse) : Bool :=
  stor (q.fMethod != [71, 69, 84]) (r.fStatus != 200) (respF r.fFields).fNoStore (respF r.fFields).fPrivate (reqF q.fFields).fNoStore (namesF r.fFields).2 (hasF q.fFields rangeN) (hasF q.fFields authN)
    (((!(respF r.fFields).fMustRevalidate) && (!(respF r.fFields).fPublic)) && ((respF r.fFields).fSMaxAge == (-1))) (decide (0 < lifeS r.fFields) || validF r.fFields)
theorem Storable_eq (q : GRequest) (r : GResponse) (hq : mdL q.fFields) (hr : mdL r.fFields) : storable_Storable q r = some (storF q r) := by
  obtain ⟨q1, q2⟩ := mdL_F hq
  obtain ⟨r1, r2⟩ := mdL_F hr
  unfold storable_Storable storF
  rw [Response_eq _ r1 r2, some_bind, Request_eq _ q1 q2, some_bind, NamesM_eq _ hr, some_bind, Has_eq _ _ q1 q2 (by decide), some_bind, Has_eq _ _ q1 q2 (by decide), some_bind, Lifetime_eq _ r1 r2, some_bind, Validator_eq _ hr, some_bind]
  unfold rangeN authN
  generalize (q.fMethod != [71, 69, 84]) = a1
  generalize (r.fStatus != 200) = a2
  generalize ((respF r.fFields).fSMaxAge == (-1)) = a3
  generalize (respF r.fFields).fNoStore = a4
  generalize (respF r.fFields).fPrivate = a5
  generalize (respF r.fFields).fMustRevalidate = a6
  generalize (respF r.fFields).fPublic = a7
  generalize (reqF q.fFields).fNoStore = a8
  generalize (namesF r.fFields).2 = a9
  generalize hasF q.fFields [82, 97, 110, 103, 101] = a10
  generalize hasF q.fFields [65, 117, 116, 104, 111, 114, 105, 122, 97, 116, 105, 111, 110] = a11
  generalize decide (0 < lifeS r.fFields) = a12
  generalize validF r.fFields = a13
  unfold stor
  cases a1
  case true => rfl
  cases a2
  case true => rfl
  cases a4
  case true => rfl
  cases a5
  case true => rfl
  cases a8
  case true => rfl
  cases a9
  case false => rfl
  cases a10
  case true => rfl
  cases a11 <;> cases a6 <;> cases a7 <;> cases a3 <;> cases a12 <;> rfl
def keepQ (q : GRequest) : Bool := ((decide (q.fMethod.length ≤ 100) && decide (q.fTarget.length ≤ 2100)) && keepF q.fFields) && decide (q.fBody.length ≤ 2000)
def keepR (r : GResponse) : Bool := (decide (r.fReason.length ≤ 2100) && keepF r.fFields) && decide (r.fBody.length ≤ 2000)
theorem keep_Request_eq (q : GRequest) : keep_Request q = some (keepQ q) := by
  unfold keep_Request keepQ
  rw [keep_Fields_eq, some_bind, show ((100 : Int)) = ((100 : Nat) : Int) from rfl, show ((2100 : Int)) = ((2100 : Nat) : Int) from rfl, show ((2000 : Int)) = ((2000 : Nat) : Int) from rfl, le_nat, le_nat, le_nat]
  cases decide (q.fMethod.length ≤ 100) && decide (q.fTarget.length ≤ 2100) <;> rfl
theorem keep_Response_eq (r : GResponse) : keep_Response r = some (keepR r) := by
  unfold keep_Response keepR
  rw [keep_Fields_eq, some_bind, show ((2100 : Int)) = ((2100 : Nat) : Int) from rfl, show ((2000 : Int)) = ((2000 : Nat) : Int) from rfl, le_nat, le_nat]
  cases decide (r.fReason.length ≤ 2100) <;> rfl
theorem keepQ_sm {q : GRequest} (h : keepQ q = true) : smL q.fFields ∧ q.fMethod.length ≤ 100 ∧ q.fTarget.length ≤ 2100 ∧ q.fBody.length ≤ 2000 := by
  simp only [keepQ, Bool.and_eq_true, decide_eq_true_eq] at h
  exact ⟨keepF_sm h.1.2, h.1.1.1, h.1.1.2, h.2⟩
theorem keepR_sm {r : GResponse} (h : keepR r = true) : smL r.fFields ∧ r.fReason.length ≤ 2100 ∧ r.fBody.length ≤ 2000 := by
  simp only [keepR, Bool.and_eq_true, decide_eq_true_eq] at h
  exact ⟨keepF_sm h.1.2, h.1.1, h.2⟩
theorem mdL_nil : mdL [] := ⟨by decide, by intro f hf; cases hf⟩
theorem awake24 : law24_awake = some true := by
  unfold law24_awake
  have hF : mdL ([⟨[67, 97, 99, 104, 101, 45, 67, 111, 110, 116, 114, 111, 108], [109, 97, 120, 45, 97, 103, 101, 61, 49]⟩] : List GField) := by
    refine ⟨by decide, ?_⟩
    intro f hf
    simp only [List.mem_singleton] at hf
    subst hf; exact ⟨by decide, by decide⟩
  rw [Storable_eq _ _ mdL_nil hF, some_bind, Storable_eq _ _ mdL_nil mdL_nil, some_bind, Unsafe_eq, some_bind]
  decide
theorem stor_no {m s ns pr nq nm rg au ex lv : Bool} (h : (((ns || pr) || nq) || !nm) = true) : stor m s ns pr nq nm rg au ex lv = false := by
  revert h
  unfold stor
  cases m <;> cases s <;> cases ns <;> cases pr <;> cases nq <;> cases nm <;> simp
theorem mem_allM {l k : List GField} {f : GField} {name m : Str} (hn : fold f.fName name = true) (hm : m ∈ split f.fValue) : 64 ≤ (allM (l ++ f :: k) name).length ∨ m ∈ allM (l ++ f :: k) name := by
  have hg : f.fValue ∈ getF (l ++ f :: k) name := by
    unfold getF
    exact List.mem_map.2 ⟨f, List.mem_filter.2 ⟨by simp, hn⟩, rfl⟩
  have hf : m ∈ (getF (l ++ f :: k) name).flatMap split := List.mem_flatMap.2 ⟨_, hg, hm⟩
  unfold allM
  by_cases h : ((getF (l ++ f :: k) name).flatMap split).length < 64
  · right; rw [List.take_of_length_le (by omega)]; exact hf
  · left; rw [List.length_take]; omega
theorem hasD_mem {ms : List Str} {name m : Str} (hm : m ∈ ms) (h : lower (hd m) = name) : hasD ms name = true := by
  unfold hasD dirOf
  rw [Option.isSome_map]
  exact List.find?_isSome.2 ⟨m, hm, by rw [h]; simp⟩
theorem respF_noStore {l k : List GField} {f : GField} (hn : fold f.fName ccN = true) (hm : ([78, 111, 45, 83, 116, 111, 114, 101] : Str) ∈ split f.fValue) : (respF (l ++ f :: k)).fNoStore = true := by
  show (hasD (allM (l ++ f :: k) ccN) [110, 111, 45, 115, 116, 111, 114, 101] || decide (64 ≤ (allM (l ++ f :: k) ccN).length)) = true
  rcases mem_allM (l := l) (k := k) hn hm with h | h
  · rw [decide_eq_true h, Bool.or_true]
  · rw [hasD_mem h (by decide), Bool.true_or]
theorem respF_private {l k : List GField} {f : GField} (hn : fold f.fName ccN = true) (hm : ([80, 114, 105, 118, 97, 116, 101, 61, 34, 97, 34] : Str) ∈ split f.fValue) : ((respF (l ++ f :: k)).fNoStore || (respF (l ++ f :: k)).fPrivate) = true := by
  show ((hasD (allM (l ++ f :: k) ccN) [110, 111, 45, 115, 116, 111, 114, 101] || decide (64 ≤ (allM (l ++ f :: k) ccN).length)) || hasD (allM (l ++ f :: k) ccN) [112, 114, 105, 118, 97, 116, 101]) = true
  rcases mem_allM (l := l) (k := k) hn hm with h | h
  · rw [decide_eq_true h, Bool.or_true, Bool.true_or]
  · rw [hasD_mem (name := [112, 114, 105, 118, 97, 116, 101]) h (by decide), Bool.or_true]
theorem namesF_star {l k : List GField} {f : GField} (hn : fold f.fName varyN = true) (hm : ([42] : Str) ∈ split f.fValue) : (namesF (l ++ f :: k)).2 = false := by
  unfold namesF
  rw [if_pos]
  rcases mem_allM (l := l) (k := k) hn hm with h | h
  · exact .inl h
  · exact .inr (List.any_eq_true.2 ⟨_, h, by decide⟩)
theorem mdL_put {l : List GField} (h : smL l) (k : Nat) {f : GField} (h1 : f.fName.length ≤ 1000) (h2 : f.fValue.length ≤ 1000) : mdL (l.take k ++ f :: l.drop k) := by
  refine ⟨?_, ?_⟩
  · have := h.1; simp only [List.length_append, List.length_take, List.length_cons, List.length_drop]; omega
  · intro x hx
    rcases List.mem_append.1 hx with hx | hx
    · have := h.2 x (List.mem_of_mem_take hx); omega
    · rcases List.mem_cons.1 hx with rfl | hx
      · exact ⟨h1, h2⟩
      · have := h.2 x (List.mem_of_mem_drop hx); omega
theorem put_eq {l : List GField} (h : smL l) (k : Nat) (hk : k ≤ l.length) (f : GField) {β : Type} (K : List GField → Option β) :
    ((xsub l 0 (k : Int)).bind fun l73 => (xapp ([] : List GField) l73).bind fun l76 => (xapp l76 [f]).bind fun l87 => (xsub l (k : Int) l.length).bind fun l93 => (xapp l87 l93).bind fun l96 => K l96) = K (l.take k ++ f :: l.drop k) := by
  have := h.1
  have h1 : (l.take k).length ≤ 70 := by rw [List.length_take]; omega
  have h2 : (l.drop k).length ≤ 70 := by rw [List.length_drop]; omega
  rw [xsub_to hk, some_bind, xapp_sm (by simp) (by omega), some_bind, List.nil_append, xapp_sm (by omega) (one_sm _), some_bind, xsub_from hk, some_bind,
    xapp_sm (by rw [List.length_append, List.length_singleton]; omega) (by omega), some_bind]
  rw [List.append_assoc, List.singleton_append]
theorem StorableNever_true (q : GRequest) (r : GResponse) (which at_ : Int) : law24_StorableNever q r which at_ = some true := by
  unfold law24_StorableNever
  rw [keep_Request_eq, some_bind, keep_Response_eq, some_bind]
  cases hq : keepQ q with
  | false => rfl
  | true =>
    cases hr : keepR r with
    | false => rfl
    | true =>
      obtain ⟨q1, _⟩ := keepQ_sm hq
      obtain ⟨r1, _⟩ := keepR_sm hr
      simp only [Bool.not_true, bif_false, some_bind, Bool.false_or]
      by_cases hb : at_ < 0
      · rw [decide_eq_true hb]; rfl
      by_cases hb2 : (r.fFields.length : Int) < at_
      · rw [decide_eq_true hb2]; simp
      obtain ⟨k, rfl⟩ := Int.eq_ofNat_of_zero_le (by omega : 0 ≤ at_)
      have hk : k ≤ r.fFields.length := by omega
      rw [decide_eq_false hb, decide_eq_false hb2]
      simp only [Bool.or_self, bif_false]
      generalize iand which 3 = n
      have key : ∀ (f : GField), f.fName.length ≤ 1000 → f.fValue.length ≤ 1000 → (∀ l k : List GField, (((respF (l ++ f :: k)).fNoStore || (respF (l ++ f :: k)).fPrivate) || !(namesF (l ++ f :: k)).2) = true) →
          ∀ q' : GRequest, mdL q'.fFields → storable_Storable q' ⟨r.fMinor, r.fStatus, r.fReason, r.fFields.take k ++ f :: r.fFields.drop k, r.fBody⟩ = some false := by
        intro f f1 f2 hno q' hq'
        rw [Storable_eq _ _ hq' (mdL_put r1 k f1 f2)]
        unfold storF
        rw [stor_no]
        have := hno (r.fFields.take k) (r.fFields.drop k)
        revert this
        generalize (respF (r.fFields.take k ++ f :: r.fFields.drop k)).fNoStore = a
        generalize (respF (r.fFields.take k ++ f :: r.fFields.drop k)).fPrivate = b
        generalize (namesF (r.fFields.take k ++ f :: r.fFields.drop k)).2 = c
        cases a <;> cases b <;> cases c <;> simp
      by_cases n1 : n = 1
      · subst n1
        simp only [show ((1 : Int) == 1) = true from rfl, show ((1 : Int) == 3) = false from rfl, bif_true, bif_false, some_bind]
        rw [put_eq r1 k hk, some_bind]
        simp only []
        rw [key _ (by decide) (by decide) (fun l k => by rw [respF_private (by decide) (by decide)]; rfl) _ (mdL_sm q1), some_bind, Bool.not_false, bif_true, awake24]; rfl
      by_cases n2 : n = 2
      · subst n2
        simp only [show ((2 : Int) == 1) = false from rfl, show ((2 : Int) == 2) = true from rfl, show ((2 : Int) == 3) = false from rfl, bif_true, bif_false, some_bind]
        rw [put_eq r1 k hk, some_bind]
        simp only []
        rw [key _ (by decide) (by decide) (fun l k => by rw [namesF_star (by decide) (by decide)]; simp) _ (mdL_sm q1), some_bind, Bool.not_false, bif_true, awake24]; rfl
      have e1 : (n == 1) = false := by simpa using n1
      have e2 : (n == 2) = false := by simpa using n2
      by_cases n3 : n = 3
      · subst n3
        simp only [show ((3 : Int) == 1) = false from rfl, show ((3 : Int) == 2) = false from rfl, show ((3 : Int) == 3) = true from rfl, bif_true, bif_false, some_bind]
        have := q1.1
        rw [xapp_sm (by simp) (by omega), some_bind, List.nil_append, xapp_sm (by omega) (one_sm _), some_bind, some_bind]
        simp only []
        have hmd : mdL (q.fFields ++ [(⟨[99, 97, 99, 104, 101, 45, 99, 111, 110, 116, 114, 111, 108], [78, 111, 45, 83, 116, 111, 114, 101]⟩ : GField)]) := by
          have := mdL_put q1 q.fFields.length (f := ⟨[99, 97, 99, 104, 101, 45, 99, 111, 110, 116, 114, 111, 108], [78, 111, 45, 83, 116, 111, 114, 101]⟩) (by decide) (by decide)
          rwa [List.take_length, List.drop_length] at this
        rw [Storable_eq _ _ hmd (mdL_sm r1), some_bind]
        have hno : (reqF (q.fFields ++ [(⟨[99, 97, 99, 104, 101, 45, 99, 111, 110, 116, 114, 111, 108], [78, 111, 45, 83, 116, 111, 114, 101]⟩ : GField)])).fNoStore = true := respF_noStore (l := q.fFields) (k := []) (f := ⟨[99, 97, 99, 104, 101, 45, 99, 111, 110, 116, 114, 111, 108], [78, 111, 45, 83, 116, 111, 114, 101]⟩) (by decide) (by decide)
        unfold storF
        rw [stor_no (by simp only []; rw [hno]; simp), Bool.not_false, bif_true, awake24]; rfl
      have e3 : (n == 3) = false := by simpa using n3
      simp only [e1, e2, e3, bif_false, some_bind]
      rw [put_eq r1 k hk, some_bind]
      simp only []
      rw [key _ (by decide) (by decide) (fun l k => by rw [respF_noStore (by decide) (by decide)]; rfl) _ (mdL_sm q1), some_bind, Bool.not_false, bif_true, awake24]; rfl
end Go.Eng.Pure
