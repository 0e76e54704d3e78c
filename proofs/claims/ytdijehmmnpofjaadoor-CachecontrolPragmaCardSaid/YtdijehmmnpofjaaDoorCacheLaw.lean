/- The laws of layer 22, in plain words. -/
import Derived.Test.YtdijehmmnpofjaaDoorCacheP
import Derived.Test.YtdijehmmnpofjaaDoorDecP
import Derived.Test.YtdijehmmnpofjaaDoorListLaw2
namespace Go.Eng.Pure
open Go Go.Eng
set_option linter.unusedVariables false
/-! texts that are one member -/
theorem trim_ends (a z : UInt8) (m : Str) (ha : bl a = false) (hz : bl z = false) : trim (a :: (m ++ [z])) = a :: (m ++ [z]) := by
  have e1 : rtrim bl ((a :: m) ++ [z]) = (a :: m) ++ [z] := by rw [rtrim_snoc, hz]; rfl
  unfold trim
  rw [show a :: (m ++ [z]) = (a :: m) ++ [z] from rfl, e1]
  show ltrim bl (a :: (m ++ [z])) = _
  unfold ltrim
  rw [List.dropWhile_cons, if_neg (by rw [ha]; decide)]; rfl
theorem ends_of (s : Str) (h : s ≠ []) : (∃ a, s = [a]) ∨ ∃ a m z, s = a :: (m ++ [z]) := by
  match s with
  | [a] => exact .inl ⟨a, rfl⟩
  | a :: b :: r => exact .inr ⟨a, (b :: r).dropLast, (b :: r).getLast (by simp), by rw [List.dropLast_concat_getLast (by simp)]⟩
theorem trim_all (s : Str) (h : s.all (fun c => !bl c) = true) : trim s = s := by
  by_cases h0 : s = []
  · subst h0; rfl
  · rcases ends_of s h0 with ⟨a, rfl⟩ | ⟨a, m, z, rfl⟩
    · have ha : bl a = false := by simpa using h
      unfold trim rtrim ltrim
      simp [List.dropWhile_cons, ha]
    · simp only [List.all_cons, List.all_append, List.all_nil, Bool.and_true, Bool.and_eq_true, Bool.not_eq_true'] at h
      exact trim_ends a z m h.1 h.2.2
theorem tok_plain {c : UInt8} (h : tokB c = true) : c ≠ 34 ∧ c ≠ 44 ∧ bl c = false ∧ c ≠ 92 := by
  have := all_u8 (fun c => !tokB c || (c != 34 && c != 44 && !bl c && c != 92)) (by decide +kernel) c
  rw [h] at this
  simpa [and_assoc] using this
theorem scan0_plain : ∀ (s : Str), (∀ c ∈ s, c ≠ 34 ∧ c ≠ 44) → scan 44 0 s = some 0
  | [], _ => rfl
  | c :: r, h => by
    obtain ⟨h1, h2⟩ := h c List.mem_cons_self
    show (if (0 : Nat) = 0 ∧ c = 44 then none else scan 44 (step 0 c) r) = some 0
    have hs : step 0 c = 0 := by unfold step; rw [if_neg (by decide), if_neg (by simp), if_neg h1]
    rw [if_neg (by simp [h2]), hs]
    exact scan0_plain r fun c hc => h c (List.mem_cons_of_mem _ hc)
theorem scan1_plain : ∀ (s : Str), (∀ c ∈ s, c ≠ 34 ∧ c ≠ 92) → scan 44 1 s = some 1
  | [], _ => rfl
  | c :: r, h => by
    obtain ⟨h1, h2⟩ := h c List.mem_cons_self
    show (if (1 : Nat) = 0 ∧ c = 44 then none else scan 44 (step 1 c) r) = some 1
    have hs : step 1 c = 1 := by unfold step; rw [if_neg (by decide), if_neg (by simp [h2]), if_neg h1]
    rw [if_neg (by simp), hs]
    exact scan1_plain r fun c hc => h c (List.mem_cons_of_mem _ hc)
theorem split_one {s : Str} (h : scan 44 0 s = some 0) (ht : trim s = s) (hn : s ≠ []) : split s = [s] := by
  have := split_join [s] (by simpa using h) (by simpa using hn) (by simpa using ht) (by simp)
  have e : join [s] = s := by rw [join_cons2]; simp
  rwa [e] at this
theorem tok_all {s : Str} (h : tok s = true) : (∀ c ∈ s, tokB c = true) ∧ s ≠ [] := by
  unfold tok at h
  simp only [Bool.and_eq_true, List.all_eq_true, bne_iff_ne, ne_eq] at h
  exact h
theorem getF_one (n v name : Str) : getF [⟨n, v⟩] name = if fold n name then [v] else [] := by
  unfold getF
  by_cases h : fold n name = true
  · simp [h]
  · simp [h]
theorem allM_one (n v name : Str) (h : fold n name = true) : allM [⟨n, v⟩] name = split v := by
  unfold allM
  rw [getF_one, if_pos h]
  simp only [List.flatMap_cons, List.flatMap_nil, List.append_nil]
  exact List.take_of_length_le (split_len v)
theorem smF1 {n v : Str} (hn : n.length ≤ 1073741824) (hv : v.length ≤ 1073741824) : ∀ f ∈ ([⟨n, v⟩] : List GField), smF f := by
  intro f hf; simp only [List.mem_singleton] at hf; subst hf; exact ⟨hn, hv⟩
/-! Overflow -/
def reps (w : Str) (n : Nat) : Str := w ++ (List.replicate n (44 :: w)).flatten
theorem reps_succ (w : Str) (n : Nat) : reps w (n + 1) = reps w n ++ 44 :: w := by
  unfold reps
  rw [List.replicate_succ', List.flatten_append]; simp
theorem reps_len (w : Str) (n : Nat) : (reps w n).length = (w.length + 1) * n + w.length := by
  induction n with
  | zero => simp [reps]
  | succ n ih => rw [reps_succ, List.length_append, ih, List.length_cons, Nat.mul_succ]; omega
theorem reps_segs (w : Str) (h : scan 44 0 w = some 0) : ∀ n, segs 44 0 [] (reps w n) = List.replicate (n + 1) w
  | 0 => by
    have := segs_scan 44 w [] 0 0 [] h
    simp only [List.append_nil, List.nil_append] at this
    show segs 44 0 [] (w ++ []) = _
    rw [List.append_nil, this]; rfl
  | n + 1 => by
    have e : reps w (n + 1) = w ++ 44 :: reps w n := by unfold reps; rw [List.replicate_succ]; simp
    rw [e, segs_noncut 0 w _ [] h, reps_segs w h n]; rfl
theorem CachecontrolOverflow_true (more : Int) (w : Str) : law22_CachecontrolOverflow more w = some true := by
  unfold law22_CachecontrolOverflow
  cases hg : (((decide (more < 0)) || (decide (20 < more))) || (decide (20 < (w.length : Int)))) with
  | true => rfl
  | false =>
    simp only [Bool.or_eq_false_iff, decide_eq_false_iff_not] at hg
    rw [bif_false, RToken_eq w (by omega), some_bind, some_bind]
    cases ht : tok w with
    | false => rfl
    | true =>
      obtain ⟨ha, hne⟩ := tok_all ht
      obtain ⟨k, rfl⟩ : ∃ k : Nat, more = (k : Int) := ⟨more.toNat, by omega⟩
      have hlen : ∀ n, n ≤ 84 → (reps w n).length ≤ 3000 := by
        intro n hn
        rw [reps_len]
        have : (w.length + 1) * n ≤ 21 * 84 := Nat.mul_le_mul (by omega) hn
        omega
      have hlp : whileO (law22_CachecontrolOverflow_L0 (k : Int) w) (w, 1) = some (reps w (63 + k)) := by
        have := while_count (fun n => (reps w n, ((n + 1 : Nat) : Int))) (63 + k) (reps w (63 + k)) (law22_CachecontrolOverflow_L0 (k : Int) w) ?_ ?_
        · have e : (w, (1 : Int)) = (reps w 0, ((0 + 1 : Nat) : Int)) := by simp [reps]
          rw [e]; exact this
        · intro n hn
          have e0 : wr (64 + (k : Int)) = ((64 + k : Nat) : Int) := by rw [wr_nat (by omega) (by omega)]; omega
          have h1 := hlen n (by omega)
          rw [law22_CachecontrolOverflow_L0, e0, lt_true (by omega), bif_true, xcat_sm (by decide) (by omega), some_bind, xcat_sm (by omega) (by simp; omega), some_bind, wrs (by omega), reps_succ]; rfl
        · have e0 : wr (64 + (k : Int)) = ((64 + k : Nat) : Int) := by rw [wr_nat (by omega) (by omega)]; omega
          show law22_CachecontrolOverflow_L0 (k : Int) w (reps w (63 + k), ((63 + k + 1 : Nat) : Int)) = _
          rw [law22_CachecontrolOverflow_L0, e0, lt_false (by omega), bif_false]
      have hrl := hlen (63 + k) (by omega)
      have hsc : scan 44 0 w = some 0 := scan0_plain w fun c hc => ⟨(tok_plain (ha c hc)).1, (tok_plain (ha c hc)).2.1⟩
      have htr : trim w = w := trim_all w (List.all_eq_true.2 fun c hc => by rw [(tok_plain (ha c hc)).2.2.1]; rfl)
      have hsplit : (split (reps w (63 + k))).length = 64 := by
        unfold split cutS
        rw [reps_segs w hsc]
        unfold mem64
        rw [List.map_replicate, htr, List.filter_replicate_of_pos (by simpa using hne), List.length_take, List.length_replicate]
        omega
      have hF := smF1 (n := [67, 97, 99, 104, 101, 45, 67, 111, 110, 116, 114, 111, 108]) (v := reps w (63 + k)) (by decide) (by omega)
      have hall : allM [⟨[67, 97, 99, 104, 101, 45, 67, 111, 110, 116, 114, 111, 108], reps w (63 + k)⟩] ccN = split (reps w (63 + k)) := allM_one _ _ _ (fold_self _)
      have hns : (respF [⟨[67, 97, 99, 104, 101, 45, 67, 111, 110, 116, 114, 111, 108], reps w (63 + k)⟩]).fNoStore = true := by
        unfold respF
        rw [hall]
        show (_ || decide (64 ≤ (split (reps w (63 + k))).length)) = true
        rw [hsplit, Bool.or_eq_true]; right; rfl
      rw [Bool.not_true, bif_false, hlp, some_bind, Response_eq _ (by simp) hF, some_bind, Request_eq _ (by simp) hF, some_bind, hns]
      have hrq : (reqF [⟨[67, 97, 99, 104, 101, 45, 67, 111, 110, 116, 114, 111, 108], reps w (63 + k)⟩]).fNoStore = true := hns
      rw [hrq, awake22]; rfl
/-! Pragma -/
theorem getF_append (l k : List GField) (name : Str) : getF (l ++ k) name = getF l name ++ getF k name := by
  unfold getF; rw [List.filter_append, List.map_append]
theorem CachecontrolPragma_true (l : List GField) (v : Str) : law22_CachecontrolPragma l v = some true := by
  unfold law22_CachecontrolPragma
  rw [keep_Fields_eq, some_bind]
  cases hk : keepF l with
  | false => rfl
  | true =>
    obtain ⟨h1, h2⟩ := smF_of hk
    obtain ⟨h3, _⟩ := keepF_sm hk
    cases hv : decide (100 < (v.length : Int)) with
    | true => rfl
    | false =>
      have hv : v.length ≤ 100 := by simp at hv; omega
      have hF : ∀ f ∈ l ++ [(⟨[80, 114, 97, 103, 109, 97], v⟩ : GField)], smF f := by
        intro f hf
        rcases List.mem_append.1 hf with hf | hf
        · exact h2 f hf
        · exact smF1 (by decide) (by omega) f hf
      have hL : (l ++ [(⟨[80, 114, 97, 103, 109, 97], v⟩ : GField)]).length ≤ 1073741824 := by rw [List.length_append]; simp; omega
      have hcc : getF (l ++ [(⟨[80, 114, 97, 103, 109, 97], v⟩ : GField)]) ccN = getF l ccN := by
        rw [getF_append, getF_one, if_neg (by decide), List.append_nil]
      have hresp : respF (l ++ [(⟨[80, 114, 97, 103, 109, 97], v⟩ : GField)]) = respF l := by unfold respF allM; rw [hcc]
      have hhas : hasF (l ++ [(⟨[80, 114, 97, 103, 109, 97], v⟩ : GField)]) ccN = hasF l ccN := by unfold hasF; rw [hcc]
      simp only [Bool.not_true, Bool.or_self, bif_false]
      rw [xapp_sm (by simp) (by omega), some_bind, List.nil_append, xapp_sm (by omega) (one_sm _), some_bind, RHas_eq l _ h1 h2 (by decide), some_bind, Request_eq _ hL hF, Request_eq l h1 h2, Response_eq _ hL hF, Response_eq l h1 h2, RFold_eq v _ (by omega) (by decide), RAll_eq l _ h1 h2 (by decide)]
      simp only [some_bind, ctl_eq, awake22, hresp, decide_true, bif_true]
      cases hh : hasF l [67, 97, 99, 104, 101, 45, 67, 111, 110, 116, 114, 111, 108] with
      | true =>
        have hreq : reqF (l ++ [(⟨[80, 114, 97, 103, 109, 97], v⟩ : GField)]) = reqF l := by
          have hh' : hasF l ccN = true := hh
          unfold reqF pragB
          rw [hresp, hhas, hh']; rfl
        rw [hreq]
        simp
      | false =>
        rw [bif_false]
        cases hfo : fold v [110, 111, 45, 99, 97, 99, 104, 101] with
        | false => rfl
        | true =>
          rw [Bool.not_true, bif_false]
          have h64 : decide (64 ≤ (((allM l [80, 114, 97, 103, 109, 97]).length : Nat) : Int)) = decide (64 ≤ (allM l pragN).length) := le_nat 64 _
          rw [h64, some_bind]
          by_cases hc : 64 ≤ (allM l pragN).length
          · rw [decide_eq_true hc]; rfl
          · rw [decide_eq_false hc, bif_false]
            have hvl : lower v = [110, 111, 45, 99, 97, 99, 104, 101] := by
              unfold fold at hfo
              simp only [Bool.and_eq_true, beq_iff_eq] at hfo
              exact hfo.2
            have hplain : ∀ c ∈ v, c ≠ 34 ∧ c ≠ 44 ∧ bl c = false := by
              intro c hcm
              have hcl : lowB c ∈ lower v := List.mem_map_of_mem hcm
              rw [hvl] at hcl
              have := all_u8 (fun c => !(([110, 111, 45, 99, 97, 99, 104, 101] : Str).contains (lowB c)) || (c != 34 && c != 44 && !bl c)) (by decide +kernel) c
              have h5 : ([110, 111, 45, 99, 97, 99, 104, 101] : Str).contains (lowB c) = true := List.contains_iff_mem.2 hcl
              rw [h5] at this
              simpa [and_assoc] using this
            have hvn : v ≠ [] := by intro h; subst h; cases hvl
            have hsv : split v = [v] := split_one (scan0_plain v fun c hc => ⟨(hplain c hc).1, (hplain c hc).2.1⟩) (trim_all v (List.all_eq_true.2 fun c hc => by rw [(hplain c hc).2.2]; rfl)) hvn
            have hall : allM (l ++ [(⟨[80, 114, 97, 103, 109, 97], v⟩ : GField)]) pragN = allM l pragN ++ [v] := by
              have hl2 : ((getF l pragN).flatMap split).length < 64 := by
                by_cases h : ((getF l pragN).flatMap split).length < 64
                · exact h
                · exfalso; apply hc; unfold allM; rw [List.length_take]; omega
              unfold allM
              rw [getF_append, getF_one, if_pos (show fold [80, 114, 97, 103, 109, 97] pragN = true from by decide), List.flatMap_append, List.flatMap_cons, List.flatMap_nil, hsv, List.append_nil, List.take_of_length_le (by rw [List.length_append, List.length_singleton]; omega), List.take_of_length_le (by omega)]
            have hpb : pragB (l ++ [(⟨[80, 114, 97, 103, 109, 97], v⟩ : GField)]) = true := by
              unfold pragB
              have hh' : hasF l ccN = false := hh
              rw [hhas, hh', hall, List.any_append]
              have : ([v] : List Str).any (fun m => fold m noCacheN) = true := by
                rw [List.any_cons]
                have : fold v noCacheN = true := hfo
                rw [this]; rfl
              rw [this]; simp
            have hnc : (reqF (l ++ [(⟨[80, 114, 97, 103, 109, 97], v⟩ : GField)])).fNoCache = true := by
              show (pragB _ || _) = true
              rw [hpb]; rfl
            rw [hnc]; rfl
/-! Forms -/
theorem hd_eq (a : Str) (c : UInt8) (r : Str) (ha : a.all tokB = true) (hc : tokB c = false) : hd (a ++ c :: r) = a ∧ tl (a ++ c :: r) = c :: r := by
  unfold hd tl
  rw [List.takeWhile_append_of_pos (fun x hx => List.all_eq_true.1 ha x hx), List.dropWhile_append_of_pos (fun x hx => List.all_eq_true.1 ha x hx), List.takeWhile_cons, List.dropWhile_cons, hc]
  simp
theorem dig_facts {c : UInt8} (h : isD c = true) : tokB c = true ∧ txtB c = true ∧ c ≠ 34 ∧ c ≠ 92 ∧ c ≠ 44 ∧ bl c = false := by
  have := all_u8 (fun c => !isD c || (tokB c && (txtB c && (c != 34 && (c != 92 && (c != 44 && !bl c)))))) (by decide +kernel) c
  rw [h] at this
  simpa using this
theorem unqL_plain : ∀ (s acc : Str), (∀ c ∈ s, c ≠ 34 ∧ c ≠ 92) → unqL s acc = some (acc ++ s)
  | [], acc, _ => by simp [unqL]
  | c :: r, acc, h => by
    obtain ⟨h1, h2⟩ := h c List.mem_cons_self
    unfold unqL
    rw [if_neg h1, if_neg h2, unqL_plain r _ fun c hc => h c (List.mem_cons_of_mem _ hc)]
    simp
theorem unq_plain (s : Str) (ht : s.all txtB = true) (h : ∀ c ∈ s, c ≠ 34 ∧ c ≠ 92) : unq (34 :: (s ++ [34])) = (s, true) := by
  have e : unq (34 :: (s ++ [34])) = unqIn s := by simp [unq]
  rw [e]
  unfold unqIn txt
  rw [if_pos ht, unqL_plain s [] h]; rfl
section
set_option linter.unusedSectionVars false
variable (s : Str) (hs : s.all isD = true) (hne : s ≠ [])
include hs hne
theorem sec_tok (a b : Int) : secS (61 :: s) a b = if (num s).2 then (num s).1 else b := by
  have ht : tok s = true := by
    unfold tok
    rw [Bool.and_eq_true]
    exact ⟨List.all_eq_true.2 fun c hc => (dig_facts (List.all_eq_true.1 hs c hc)).1, by simpa using hne⟩
  have ha : argS (61 :: s) = (s, true) := by unfold argS; simp [ht]
  unfold secS
  rw [if_neg (by simp), ha]
  simp
theorem sec_quoted (a b : Int) : secS (61 :: 34 :: (s ++ [34])) a b = if (num s).2 then (num s).1 else b := by
  have ht : tok (34 :: (s ++ [34])) = false := by
    unfold tok
    rw [List.all_cons, show tokB 34 = false from by decide]; rfl
  have hu := unq_plain s (List.all_eq_true.2 fun c hc => (dig_facts (List.all_eq_true.1 hs c hc)).2.1) (fun c hc => ⟨(dig_facts (List.all_eq_true.1 hs c hc)).2.2.1, (dig_facts (List.all_eq_true.1 hs c hc)).2.2.2.1⟩)
  have ha : argS (61 :: 34 :: (s ++ [34])) = (s, true) := by unfold argS; simp [ht, hu]
  unfold secS
  rw [if_neg (by simp), ha]
  simp
theorem scan_digs (st : Nat) (h : st = 0 ∨ st = 1) : scan 44 st s = some st := by
  rcases h with rfl | rfl
  · exact scan0_plain s fun c hc => ⟨(dig_facts (List.all_eq_true.1 hs c hc)).2.2.1, (dig_facts (List.all_eq_true.1 hs c hc)).2.2.2.2.1⟩
  · exact scan1_plain s fun c hc => ⟨(dig_facts (List.all_eq_true.1 hs c hc)).2.2.1, (dig_facts (List.all_eq_true.1 hs c hc)).2.2.2.1⟩
/-- The four directives. -/
theorem forms_split : split (((((((([77, 65, 88, 45, 65, 71, 69, 61] ++ s) ++ [44, 32, 115, 45, 109, 97, 120, 97, 103, 101, 61, 34]) ++ s) ++ [34, 44, 32, 109, 105, 110, 45, 102, 114, 101, 115, 104, 61]) ++ s) ++ [44, 32, 109, 97, 120, 45, 115, 116, 97, 108, 101, 61, 34]) ++ s) ++ [34] : Str) =
    [[77, 65, 88, 45, 65, 71, 69] ++ 61 :: s, [115, 45, 109, 97, 120, 97, 103, 101] ++ 61 :: 34 :: (s ++ [34]), [109, 105, 110, 45, 102, 114, 101, 115, 104] ++ 61 :: s, [109, 97, 120, 45, 115, 116, 97, 108, 101] ++ 61 :: 34 :: (s ++ [34])] := by
  have e : (((((((([77, 65, 88, 45, 65, 71, 69, 61] ++ s) ++ [44, 32, 115, 45, 109, 97, 120, 97, 103, 101, 61, 34]) ++ s) ++ [34, 44, 32, 109, 105, 110, 45, 102, 114, 101, 115, 104, 61]) ++ s) ++ [44, 32, 109, 97, 120, 45, 115, 116, 97, 108, 101, 61, 34]) ++ s) ++ [34] : Str) =
    join [[77, 65, 88, 45, 65, 71, 69] ++ 61 :: s, [115, 45, 109, 97, 120, 97, 103, 101] ++ 61 :: 34 :: (s ++ [34]), [109, 105, 110, 45, 102, 114, 101, 115, 104] ++ 61 :: s, [109, 97, 120, 45, 115, 116, 97, 108, 101] ++ 61 :: 34 :: (s ++ [34])] := by
    rw [join_cons2]; simp
  rw [e]
  have d0 := scan_digs s hs hne 0 (.inl rfl)
  have d1 := scan_digs s hs hne 1 (.inr rfl)
  have hscan : ∀ pre : Str, scan 44 0 pre = some 0 → scan 44 0 (pre ++ 61 :: s) = some 0 := by
    intro pre hp
    rw [scan_append, hp, Option.bind_some]
    exact d0
  have hscanq : ∀ pre : Str, scan 44 0 pre = some 0 → scan 44 0 (pre ++ 61 :: 34 :: (s ++ [34])) = some 0 := by
    intro pre hp
    rw [scan_append, hp, Option.bind_some]
    show scan 44 1 (s ++ [34]) = some 0
    rw [scan_append, d1, Option.bind_some]; rfl
  have hlast : ∃ m z, s = m ++ [z] ∧ bl z = false := by
    refine ⟨s.dropLast, s.getLast hne, (List.dropLast_concat_getLast hne).symm, ?_⟩
    exact (dig_facts (List.all_eq_true.1 hs _ (List.getLast_mem hne))).2.2.2.2.2
  obtain ⟨m, z, hmz, hz⟩ := hlast
  refine split_join _ ?_ ?_ ?_ (by simp)
  · intro x hx
    simp only [List.mem_cons, List.not_mem_nil, or_false] at hx
    rcases hx with rfl | rfl | rfl | rfl
    · exact hscan _ (by decide)
    · exact hscanq _ (by decide)
    · exact hscan _ (by decide)
    · exact hscanq _ (by decide)
  · intro x hx
    simp only [List.mem_cons, List.not_mem_nil, or_false] at hx
    rcases hx with rfl | rfl | rfl | rfl <;> simp
  · intro x hx
    simp only [List.mem_cons, List.not_mem_nil, or_false] at hx
    rcases hx with rfl | rfl | rfl | rfl
    · rw [hmz]; exact trim_ends 77 z ([65, 88, 45, 65, 71, 69, 61] ++ m) (by decide) hz
    · exact trim_ends 115 34 ([45, 109, 97, 120, 97, 103, 101, 61, 34] ++ s) (by decide) (by decide)
    · rw [hmz]; exact trim_ends 109 z ([105, 110, 45, 102, 114, 101, 115, 104, 61] ++ m) (by decide) hz
    · exact trim_ends 109 34 ([97, 120, 45, 115, 116, 97, 108, 101, 61, 34] ++ s) (by decide) (by decide)
end
theorem respC_maxAge (ms : List Str) : (respC ms).fMaxAge = secOf ms [109, 97, 120, 45, 97, 103, 101] 0 0 := rfl
theorem respC_sMaxAge (ms : List Str) : (respC ms).fSMaxAge = secOf ms [115, 45, 109, 97, 120, 97, 103, 101] 0 0 := rfl
theorem respC_minFresh (ms : List Str) : (respC ms).fMinFresh = secOf ms [109, 105, 110, 45, 102, 114, 101, 115, 104] 2147483647 2147483647 := rfl
theorem respC_maxStale (ms : List Str) : (respC ms).fMaxStale = secOf ms [109, 97, 120, 45, 115, 116, 97, 108, 101] 2147483647 0 := rfl
theorem CachecontrolForms_true (n z : Int) (hn : (Lit.int .i64 n).wf = true) (hz : (Lit.int .i64 z).wf = true) : law22_CachecontrolForms n z = some true := by
  have hn2 : n ≤ 9223372036854775807 := by
    unfold Lit.wf at hn
    simp only [Bool.and_eq_true, decide_eq_true_eq] at hn
    have hmx : IntKind.max .i64 = 9223372036854775807 := by decide
    rw [hmx] at hn; exact hn.2
  unfold law22_CachecontrolForms
  cases hg : (((decide (n < 0)) || (decide (z < 0))) || (decide (30 < z))) with
  | true => rfl
  | false =>
    simp only [Bool.or_eq_false_iff, decide_eq_false_iff_not] at hg
    obtain ⟨k, rfl⟩ : ∃ k : Nat, z = (k : Int) := ⟨z.toNat, by omega⟩
    obtain ⟨u, rfl⟩ : ∃ u : Nat, n = (u : Int) := ⟨n.toNat, by omega⟩
    have hlp : whileO (law22_CachecontrolForms_L0 (k : Int)) ([], 0) = some (List.replicate k 48) := by
      have := while_count (fun n => (List.replicate n (48 : UInt8), (n : Int))) k (List.replicate k 48) (law22_CachecontrolForms_L0 (k : Int)) ?_ ?_
      · exact this
      · intro i hi
        rw [law22_CachecontrolForms_L0, lt_true hi, bif_true, xcat_sm (by simp; omega) (by decide), some_bind, wrs (by omega), ← List.replicate_succ']
      · rw [law22_CachecontrolForms_L0, lt_false (Nat.le_refl k), bif_false]
    have hdl : (dec u).length ≤ 40 := by
      unfold dec
      rw [Lib.decDigits_eq]
      simp only [List.length_map, List.length_range]
      by_cases h0 : Lib.nDigits u ≤ 40
      · exact h0
      · exfalso
        have hp : ∀ k v : Nat, 1 ≤ k → k < Lib.nDigits v → 10 ^ k ≤ v := by
          intro k
          induction k with
          | zero => intro v h; omega
          | succ k ih =>
            intro v _ hk
            by_cases hv : v < 10
            · rw [Lib.nDigits_small hv] at hk; omega
            · rw [Lib.nDigits_big hv] at hk
              by_cases hk0 : k = 0
              · subst hk0; simp; omega
              · have := ih (v / 10) (by omega) (by omega)
                rw [Nat.pow_succ]; omega
        have := hp 19 u (by omega) (by omega)
        omega
    have hit : Lib.itoa (u : Int) = dec u := by unfold Lib.itoa; rw [if_neg (by omega)]; rfl
    have hnum := num_zeros k u
    have hall := zeros_all k u
    have hsn : List.replicate k 48 ++ dec u ≠ [] := fun h => (dec_all u).2 (List.append_eq_nil_iff.1 h).2
    have hsl : (List.replicate k (48 : UInt8) ++ dec u).length ≤ 70 := by rw [List.length_append, List.length_replicate]; omega
    rw [bif_false, hlp, some_bind, Decimal_eq _ (by omega) hn2, some_bind, hit, xcat_sm (by simp; omega) (by omega), some_bind]
    generalize List.replicate k 48 ++ dec u = s at hnum hall hsn hsl ⊢
    have hsp := forms_split s hall hsn
    rw [xcat_sm (by decide) (by omega), some_bind, xcat_sm (by simp; omega) (by decide), some_bind, xcat_sm (by simp; omega) (by omega), some_bind, xcat_sm (by simp; omega) (by decide), some_bind, xcat_sm (by simp; omega) (by omega), some_bind, xcat_sm (by simp; omega) (by decide), some_bind, xcat_sm (by simp; omega) (by omega), some_bind, xcat_sm (by simp; omega) (by decide), some_bind]
    generalize hV : (((((((([77, 65, 88, 45, 65, 71, 69, 61] ++ s) ++ [44, 32, 115, 45, 109, 97, 120, 97, 103, 101, 61, 34]) ++ s) ++ [34, 44, 32, 109, 105, 110, 45, 102, 114, 101, 115, 104, 61]) ++ s) ++ [44, 32, 109, 97, 120, 45, 115, 116, 97, 108, 101, 61, 34]) ++ s) ++ [34] : Str) = V at hsp ⊢
    have hVl : V.length ≤ 500 := by rw [← hV]; simp; omega
    rw [Response_eq _ (by simp) (smF1 (by decide) (by omega)), some_bind]
    have hall2 : allM [⟨[67, 97, 99, 104, 101, 45, 67, 111, 110, 116, 114, 111, 108], V⟩] ccN = split V := allM_one _ _ _ (fold_self _)
    have h1 := hd_eq [77, 65, 88, 45, 65, 71, 69] 61 s (by decide) (by decide)
    have h2 := hd_eq [115, 45, 109, 97, 120, 97, 103, 101] 61 (34 :: (s ++ [34])) (by decide) (by decide)
    have h3 := hd_eq [109, 105, 110, 45, 102, 114, 101, 115, 104] 61 s (by decide) (by decide)
    have h4 := hd_eq [109, 97, 120, 45, 115, 116, 97, 108, 101] 61 (34 :: (s ++ [34])) (by decide) (by decide)
    have hc : (if 2147483647 < (u : Int) then (2147483647 : Int) else (u : Int)) = cap u := rfl
    have n1 : (num s).1 = cap u := by rw [hnum]
    have n2 : (num s).2 = true := by rw [hnum]
    have r1 : (respF [⟨[67, 97, 99, 104, 101, 45, 67, 111, 110, 116, 114, 111, 108], V⟩]).fMaxAge = cap u := by
      unfold respF; rw [hall2, hsp, respC_maxAge]
      unfold secOf
      rw [dirOf_cons, h1.1, if_pos (by decide), h1.2]
      show secS (61 :: s) 0 0 = _
      rw [sec_tok s hall hsn, n2, n1]; rfl
    have r2 : (respF [⟨[67, 97, 99, 104, 101, 45, 67, 111, 110, 116, 114, 111, 108], V⟩]).fSMaxAge = cap u := by
      unfold respF; rw [hall2, hsp, respC_sMaxAge]
      unfold secOf
      rw [dirOf_cons, h1.1, if_neg (by decide), dirOf_cons, h2.1, if_pos (by decide), h2.2]
      show secS (61 :: 34 :: (s ++ [34])) 0 0 = _
      rw [sec_quoted s hall hsn, n2, n1]; rfl
    have r3 : (respF [⟨[67, 97, 99, 104, 101, 45, 67, 111, 110, 116, 114, 111, 108], V⟩]).fMinFresh = cap u := by
      unfold respF; rw [hall2, hsp, respC_minFresh]
      unfold secOf
      rw [dirOf_cons, h1.1, if_neg (by decide), dirOf_cons, h2.1, if_neg (by decide), dirOf_cons, h3.1, if_pos (by decide), h3.2]
      show secS (61 :: s) 2147483647 2147483647 = _
      rw [sec_tok s hall hsn, n2, n1]; rfl
    have r4 : (respF [⟨[67, 97, 99, 104, 101, 45, 67, 111, 110, 116, 114, 111, 108], V⟩]).fMaxStale = cap u := by
      unfold respF; rw [hall2, hsp, respC_maxStale]
      unfold secOf
      rw [dirOf_cons, h1.1, if_neg (by decide), dirOf_cons, h2.1, if_neg (by decide), dirOf_cons, h3.1, if_neg (by decide), dirOf_cons, h4.1, if_pos (by decide), h4.2]
      show secS (61 :: 34 :: (s ++ [34])) 2147483647 0 = _
      rw [sec_quoted s hall hsn, n2, n1]; rfl
    rw [r1, r2, r3, r4, hc, awake22]
    simp
/-! First -/
def quote (s : Str) : Str := 34 :: (s.flatMap (fun c => if c = 34 ∨ c = 92 then [92, c] else [c]) ++ [34])
theorem esc_len (t : Str) : (t.flatMap (fun c => if c = 34 ∨ c = 92 then [92, c] else [c])).length ≤ 2 * t.length := by
  induction t with
  | nil => exact Nat.le_refl _
  | cons c t ih =>
    have e : (if c = 34 ∨ c = 92 then [92, c] else [c]).length ≤ 2 := by split <;> simp
    rw [List.flatMap_cons, List.length_append, List.length_cons]
    omega
theorem Quote_eq (s : Str) (hs : s.length ≤ 1073741824) : ref01_Quote s = some (quote s) := by
  have hfl := esc_len
  have := while_count (fun n => (34 :: (s.take n).flatMap (fun c => if c = 34 ∨ c = 92 then [92, c] else [c]), (n : Int))) s.length (34 :: s.flatMap (fun c => if c = 34 ∨ c = 92 then [92, c] else [c])) (ref01_Quote_L0 s) ?_ ?_
  · unfold ref01_Quote quote
    have e : (([34] : Str), (0 : Int)) = (34 :: (s.take 0).flatMap (fun c => if c = 34 ∨ c = 92 then [92, c] else [c]), ((0 : Nat) : Int)) := by simp
    have hl := hfl s
    rw [e, this, some_bind, xapp_sm (by simp only [List.length_cons]; omega) (one_sm _)]; rfl
  · intro n hn
    have hl := hfl (s.take n)
    have ht : (s.take n).length ≤ n := by rw [List.length_take]; omega
    have hcond : (bif s[n] == 34 then some true else some (s[n] == 92)) = some (decide (s[n] = 34 ∨ s[n] = 92)) := by
      by_cases h1 : s[n] = 34
      · simp [h1]
      · have h1' : (s[n] == 34) = false := by simpa using h1
        by_cases h2 : s[n] = 92
        · simp [h2]
        · simp [h1, h2, h1']
    simp only [ref01_Quote_L0, lt_true hn, bif_true, xnth_get hn, some_bind]
    rw [hcond, some_bind, take_succ_get hn, List.flatMap_append, wrs (by omega)]
    by_cases hc : s[n] = 34 ∨ s[n] = 92
    · rw [decide_eq_true hc, bif_true, xapp_sm (by simp only [List.length_cons]; omega) (one_sm _), some_bind, some_bind, xapp_sm (by simp only [List.length_cons, List.length_append, List.length_nil]; omega) (one_sm _), some_bind]
      simp [hc]
    · rw [decide_eq_false hc, bif_false, some_bind, xapp_sm (by simp only [List.length_cons]; omega) (one_sm _), some_bind]
      simp [hc]
  · simp only [ref01_Quote_L0, lt_false (Nat.le_refl s.length), bif_false, List.take_length]
theorem quote_len (s : Str) : (quote s).length ≤ 2 * s.length + 2 := by
  unfold quote
  rw [List.length_cons, List.length_append, List.length_singleton]
  have := esc_len s
  omega
theorem scan_quote (s : Str) : scan 44 0 (quote s) = some 0 := by
  have key : ∀ t : Str, scan 44 1 (t.flatMap (fun c => if c = 34 ∨ c = 92 then [92, c] else [c])) = some 1 := by
    intro t
    induction t with
    | nil => rfl
    | cons c t ih =>
      rw [List.flatMap_cons, scan_append]
      have : scan 44 1 (if c = 34 ∨ c = 92 then [92, c] else [c]) = some 1 := by
        by_cases hc : c = 34 ∨ c = 92
        · rw [if_pos hc]; rfl
        · rw [if_neg hc]
          have h1 : c ≠ 34 := fun h => hc (.inl h)
          have h2 : c ≠ 92 := fun h => hc (.inr h)
          exact scan1_plain [c] (by simpa using ⟨h1, h2⟩)
      rw [this, Option.bind_some, ih]
  show scan 44 1 (s.flatMap (fun c => if c = 34 ∨ c = 92 then [92, c] else [c]) ++ [34]) = some 0
  rw [scan_append, key s, Option.bind_some]; rfl
theorem dirOf_append (ms ks : List Str) (name : Str) : dirOf (ms ++ ks) name = match dirOf ms name with | some r => some r | none => dirOf ks name := by
  unfold dirOf
  rw [List.find?_append]
  cases ms.find? fun m => lower (hd m) == name <;> rfl
theorem respC_later (ms : List Str) (v : Str) (h : dirOf ms (lower (hd v)) ≠ none) (hl : ms.length < 63) : respC (ms ++ [v]) = respC ms := by
  have hd1 : ∀ name, dirOf (ms ++ [v]) name = dirOf ms name := by
    intro name
    rw [dirOf_append]
    cases hx : dirOf ms name with
    | some r => rfl
    | none =>
      show dirOf [v] name = none
      rw [dirOf_cons]
      by_cases hn : lower (hd v) = name
      · rw [hn] at h; exact absurd hx h
      · have : (lower (hd v) == name) = false := by simpa using hn
        rw [this]; rfl
  unfold respC hasD secOf
  simp only [hd1, List.length_append, List.length_singleton]
  have e1 : decide (64 ≤ ms.length + 1) = false := decide_eq_false (by omega)
  have e2 : decide (64 ≤ ms.length) = false := decide_eq_false (by omega)
  rw [e1, e2]
theorem first_loop (ms : List Str) (i : Nat) (hi : i < ms.length) (hm : ms[i].length ≤ 1073741824) : whileO (law22_CachecontrolFirst_L0 ms (i : Int)) 0 = some ((hd ms[i]).length : Int) := by
  refine while_hd ms[i] _ fun n hn => ?_
  have e0 := xnth_get hi
  generalize ms[i] = m at e0 hm hn ⊢
  by_cases hlt : n < m.length
  · simp only [law22_CachecontrolFirst_L0, e0, some_bind, lt_true hlt, bif_true, wrs (show n ≤ 4 * 1073741824 by omega), xnth_get hlt, TokenByte_eq]
    rw [dif_pos hlt]
    cases tokB m[n] <;> rfl
  · rw [dif_neg hlt]
    simp only [law22_CachecontrolFirst_L0, e0, some_bind, lt_false (show m.length ≤ n by omega), bif_false]
theorem CachecontrolFirst_true (a b name : Str) : law22_CachecontrolFirst a b name = some true := by
  unfold law22_CachecontrolFirst
  cases hg : (((decide (200 < (a.length : Int))) || (decide (200 < (b.length : Int)))) || (decide (50 < (name.length : Int)))) with
  | true => rfl
  | false =>
    simp only [Bool.or_eq_false_iff, decide_eq_false_iff_not] at hg
    rw [bif_false, RToken_eq name (by omega), some_bind, some_bind]
    cases ht : tok name with
    | false => rfl
    | true =>
      obtain ⟨hna, hnn⟩ := tok_all ht
      have hal := split_len a
      rw [Bool.not_true, bif_false, xcat_sm (by omega) (by decide), some_bind, RSplit_eq _ (by rw [List.length_append]; simp; omega), some_bind, RSplit_eq a (by omega), some_bind, wrs (by omega), neI]
      cases hc : ((split (a ++ [44, 120])).length != (split a).length + 1) with
      | true => rfl
      | false =>
        have hF1 := smF1 (n := [67, 97, 99, 104, 101, 45, 67, 111, 110, 116, 114, 111, 108]) (v := a) (by decide) (by omega)
        have hall : allM [⟨[67, 97, 99, 104, 101, 45, 67, 111, 110, 116, 114, 111, 108], a⟩] ccN = split a := allM_one _ _ _ (fold_self _)
        rw [some_bind, bif_false, some_bind]
        have hsm : ∀ m ∈ split a, m.length ≤ 200 := fun m hm => by have := split_sm a m hm; omega
        have hq := quote_len b
        -- what is added
        generalize hv : name ++ [61] ++ quote b = v
        have hvl : v.length ≤ 600 := by rw [← hv]; simp; omega
        have hsv : split v = [v] := by
          refine split_one ?_ ?_ ?_
          · rw [← hv, scan_append, scan_append, scan0_plain name fun c hc => ⟨(tok_plain (hna c hc)).1, (tok_plain (hna c hc)).2.1⟩]
            exact scan_quote b
          · rw [← hv]
            obtain ⟨c, r, rfl⟩ : ∃ c r, name = c :: r := by cases name with
              | nil => exact absurd rfl hnn
              | cons c r => exact ⟨c, r, rfl⟩
            have := trim_ends c 34 (r ++ [61] ++ 34 :: b.flatMap (fun c => if c = 34 ∨ c = 92 then [92, c] else [c])) (tok_plain (hna c List.mem_cons_self)).2.2.1 (by decide)
            unfold quote
            simpa using this
          · rw [← hv]; simp
        have hhd : hd v = name := by
          rw [← hv, List.append_assoc]
          exact (hd_eq name 61 (quote b) (List.all_eq_true.2 hna) (by decide)).1
        have hF2 : ∀ f ∈ ([⟨[67, 97, 99, 104, 101, 45, 67, 111, 110, 116, 114, 111, 108], a⟩, ⟨[99, 97, 99, 104, 101, 45, 99, 111, 110, 116, 114, 111, 108], v⟩] : List GField), smF f := by
          intro f hf
          simp only [List.mem_cons, List.not_mem_nil, or_false] at hf
          rcases hf with rfl | rfl
          · exact ⟨show (13 : Nat) ≤ _ by omega, show a.length ≤ _ by omega⟩
          · exact ⟨show (13 : Nat) ≤ _ by omega, show v.length ≤ _ by omega⟩
        have hall2 : (split a).length < 40 → allM [⟨[67, 97, 99, 104, 101, 45, 67, 111, 110, 116, 114, 111, 108], a⟩, ⟨[99, 97, 99, 104, 101, 45, 99, 111, 110, 116, 114, 111, 108], v⟩] ccN = split a ++ [v] := by
          intro h40
          have e1 : fold [67, 97, 99, 104, 101, 45, 67, 111, 110, 116, 114, 111, 108] ccN = true := fold_self _
          have e2 : fold [99, 97, 99, 104, 101, 45, 99, 111, 110, 116, 114, 111, 108] ccN = true := by decide
          unfold allM getF
          simp only [List.filter_cons, e1, e2, if_true, List.filter_nil, List.map_cons, List.map_nil, List.flatMap_cons, List.flatMap_nil, hsv, List.append_nil]
          exact List.take_of_length_le (by rw [List.length_append, List.length_singleton]; omega)
        have key : ∀ (k n : Nat), n + k = (split a).length → ∃ r, whileO (law22_CachecontrolFirst_L1 a b name (split a)) (n : Int) = some r ∧ (r = .inl () ∨ r = .inr true) := by
          intro k
          induction k with
          | zero =>
            intro n hn
            obtain rfl : n = (split a).length := by omega
            refine ⟨.inl (), whileO_done ?_, .inl rfl⟩
            rw [law22_CachecontrolFirst_L1, lt_false (Nat.le_refl _), bif_false]
          | succ k ih =>
            intro n hn
            have hlt : n < (split a).length := by omega
            have hml := hsm _ (List.getElem_mem hlt)
            have hh := hd_len (split a)[n]
            have hlp := first_loop (split a) n hlt (by omega)
            have h40 : decide (((split a).length : Int) < 40) = decide ((split a).length < 40) := lt_nat _ 40
            have hb : law22_CachecontrolFirst_L1 a b name (split a) (n : Int) = some (.inl ((n + 1 : Nat) : Int)) ∨ law22_CachecontrolFirst_L1 a b name (split a) (n : Int) = some (.inr (.inr true)) := by
              rw [law22_CachecontrolFirst_L1, lt_true hlt, bif_true, hlp, some_bind, xnth_get hlt, some_bind, xsub_to hh, some_bind, take_hd, RFold_eq _ name (by omega) (by omega), some_bind, h40, wrs (by omega)]
              cases hcc : (fold (hd (split a)[n]) name && decide ((split a).length < 40)) with
              | false => left; rfl
              | true =>
                right
                rw [Bool.and_eq_true, decide_eq_true_eq] at hcc
                rw [bif_true, xapp_sm (by simp) (one_sm _), some_bind, xcat_sm (by omega) (by decide), some_bind, Quote_eq b (by omega), some_bind, xcat_sm (by rw [List.length_append]; simp; omega) (by omega), some_bind, hv, xapp_sm (by simp) (one_sm _), some_bind, RText_eq b (by omega), some_bind]
                cases txt b with
                | false => rfl
                | true =>
                  rw [Bool.not_true, bif_false]
                  show ((cachecontrol_Response [⟨[67, 97, 99, 104, 101, 45, 67, 111, 110, 116, 114, 111, 108], a⟩, ⟨[99, 97, 99, 104, 101, 45, 99, 111, 110, 116, 114, 111, 108], v⟩]).bind fun r144 => _) = _
                  rw [Response_eq _ (by simp) hF2, some_bind, Response_eq _ (by simp) hF1, some_bind, ctl_eq]
                  have heq : respF [⟨[67, 97, 99, 104, 101, 45, 67, 111, 110, 116, 114, 111, 108], a⟩, ⟨[99, 97, 99, 104, 101, 45, 99, 111, 110, 116, 114, 111, 108], v⟩] = respF [⟨[67, 97, 99, 104, 101, 45, 67, 111, 110, 116, 114, 111, 108], a⟩] := by
                    unfold respF
                    rw [hall2 hcc.2, hall]
                    refine respC_later _ v ?_ (by omega)
                    rw [hhd]
                    intro hnone
                    unfold dirOf at hnone
                    rw [Option.map_eq_none_iff, List.find?_eq_none] at hnone
                    have h9 := hnone _ (List.getElem_mem hlt)
                    have h10 : lower (hd (split a)[n]) = lower name := by
                      have := hcc.1
                      unfold fold at this
                      simp only [Bool.and_eq_true, beq_iff_eq] at this
                      exact this.2
                    exact h9 (by simpa using h10)
                  rw [heq, decide_eq_true rfl, awake22]; rfl
            rcases hb with hb | hb
            · obtain ⟨r, h1, h2⟩ := ih (n + 1) (by omega)
              exact ⟨r, by rw [whileO_next hb, h1], h2⟩
            · exact ⟨_, whileO_done hb, .inr rfl⟩
        obtain ⟨r, hr1, hr2⟩ := key (split a).length 0 (by omega)
        have hr1 : whileO (law22_CachecontrolFirst_L1 a b name (split a)) 0 = some r := hr1
        rw [hr1, some_bind, Response_eq _ (by simp) hF1, RResponse_eq _ (by simp) hF1]
        rcases hr2 with rfl | rfl
        · simp only [some_bind, ctl_eq, decide_true, bif_true, awake22]
        · rfl
end Go.Eng.Pure
