/- A part of the proof of laws of the seat. -/
import Derived.Test.YtogfdiigokidaaaGreatDoorMakeQ
namespace Go.Eng.Pure
open Go Go.Eng
set_option linter.unusedVariables false
def ND {β : Type} (m : List (Str × β)) : Prop := (m.map Prod.fst).Nodup
theorem keys_mset {β : Type} (k : Str) (v : β) : ∀ m : List (Str × β), (mset m k v).map Prod.fst = if k ∈ m.map Prod.fst then m.map Prod.fst else m.map Prod.fst ++ [k]
  | [] => by simp [mset]
  | p :: r => by
    unfold mset
    by_cases h : k = p.1
    · subst h; simp
    · have hb : (k == p.1) = false := by simpa using h
      rw [hb]
      simp only [Bool.false_eq_true, if_false, List.map_cons, keys_mset k v r, List.mem_cons, h, false_or]
      split <;> simp
theorem ND.mset {β : Type} {m : List (Str × β)} (h : ND m) (k : Str) (v : β) : ND (mset m k v) := by
  unfold ND at *
  rw [keys_mset]
  split
  · exact h
  · rename_i hk
    rw [List.nodup_append]
    exact ⟨h, by simp, by intro a ha b hb; rw [List.mem_singleton] at hb; subst hb; exact fun e => hk (e ▸ ha)⟩
theorem keys_mdel {β : Type} (k : Str) : ∀ m : List (Str × β), ((mdel m k).map Prod.fst).Sublist (m.map Prod.fst)
  | [] => by simp [mdel]
  | p :: r => by
    unfold mdel
    split
    · exact List.sublist_cons_self _ _
    · exact (keys_mdel k r).cons_cons _
theorem ND.mdel {β : Type} {m : List (Str × β)} (h : ND m) (k : Str) : ND (mdel m k) := (keys_mdel k m).nodup h
theorem lookup_mdel {β : Type} (k k' : Str) : ∀ m : List (Str × β), ND m → (mdel m k).lookup k' = if k' == k then none else m.lookup k'
  | [], _ => by simp [mdel]
  | p :: r, h => by
    unfold ND at h
    rw [List.map_cons, List.nodup_cons] at h
    unfold mdel
    by_cases hk : k = p.1
    · subst hk
      rw [if_pos (by simp)]
      by_cases hk' : k' = p.1
      · subst hk'
        rw [if_pos (by simp)]
        have : ∀ (r : List (Str × β)), p.1 ∉ r.map Prod.fst → r.lookup p.1 = none := by
          intro r
          induction r with
          | nil => intro _; rfl
          | cons q r ih =>
            intro hn
            rw [List.map_cons, List.mem_cons, not_or] at hn
            rw [List.lookup, show (p.1 == q.1) = false by simpa using hn.1]
            exact ih hn.2
        exact this r h.1
      · have hb : (k' == p.1) = false := by simpa using hk'
        rw [List.lookup, hb]; rfl
    · have hb : (k == p.1) = false := by simpa using hk
      rw [hb]
      simp only [Bool.false_eq_true, if_false]
      rw [List.lookup, List.lookup, lookup_mdel k k' r h.2]
      by_cases hk' : k' = p.1
      · subst hk'
        have : (p.1 == k) = false := by simpa using Ne.symm hk
        simp [this]
      · have hb' : (k' == p.1) = false := by simpa using hk'
        rw [hb']
theorem mget_mdel {β : Type} {m : List (Str × β)} (h : ND m) (k k' : Str) (z : β) : (mget (mdel m k) k' z).1 = if k' == k then z else (mget m k' z).1 := by
  unfold mget
  rw [lookup_mdel k k' m h]
  cases k' == k <;> rfl
theorem fold_set (g : Str → Str) (k : Str) : ∀ (ms : List Str) (m : List (Str × Bool)), (mget (ms.foldl (fun m x => mset m (g x) true) m) k false).1 = ((mget m k false).1 || ms.any fun x => g x == k)
  | [], m => by simp
  | x :: ms, m => by
    rw [List.foldl_cons, fold_set g k ms, mget_mset, List.any_cons]
    by_cases h : k = g x
    · subst h; simp
    · have h1 : (k == g x) = false := by simpa using h
      have h2 : (g x == k) = false := by simpa using Ne.symm h
      rw [h1, h2]; simp
theorem ND_fold_set (g : Str → Str) : ∀ (ms : List Str) (m : List (Str × Bool)), ND m → ND (ms.foldl (fun m x => mset m (g x) true) m)
  | [], m, h => h
  | x :: ms, m, h => ND_fold_set g ms _ (h.mset _ _)
theorem fold_del (k : Str) : ∀ (ms : List Str) (m : List (Str × Bool)), ND m → (mget (ms.foldl (fun m x => mdel m x) m) k false).1 = ((mget m k false).1 && !ms.any fun x => x == k)
  | [], m, h => by simp
  | x :: ms, m, h => by
    rw [List.foldl_cons, fold_del k ms _ (h.mdel x), mget_mdel h, List.any_cons]
    by_cases hk : k = x
    · subst hk; simp
    · have h1 : (k == x) = false := by simpa using hk
      have h2 : (x == k) = false := by simpa using Ne.symm hk
      rw [h1, h2]; simp
def connN : Str := [67, 111, 110, 110, 101, 99, 116, 105, 111, 110]
def fixedL : List Str := [[67, 111, 110, 110, 101, 99, 116, 105, 111, 110], [75, 101, 101, 112, 45, 65, 108, 105, 118, 101], [80, 114, 111, 120, 121, 45, 67, 111, 110, 110, 101, 99, 116, 105, 111, 110], [80, 114, 111, 120, 121, 45, 65, 117, 116, 104, 101, 110, 116, 105, 99, 97, 116, 101], [80, 114, 111, 120, 121, 45, 65, 117, 116, 104, 111, 114, 105, 122, 97, 116, 105, 111, 110], [84, 69], [84, 114, 97, 105, 108, 101, 114], [84, 114, 97, 110, 115, 102, 101, 114, 45, 69, 110, 99, 111, 100, 105, 110, 103], [67, 111, 110, 116, 101, 110, 116, 45, 76, 101, 110, 103, 116, 104], [85, 112, 103, 114, 97, 100, 101]]
def keptL : List Str := [[72, 111, 115, 116], [67, 97, 99, 104, 101, 45, 67, 111, 110, 116, 114, 111, 108], [86, 97, 114, 121], [86, 97, 114, 105, 97, 110, 116, 115], [86, 97, 114, 105, 97, 110, 116, 45, 75, 101, 121], [86, 105, 97]]
def struck (l : List GField) (f : GField) : Bool := fixedL.any (fold f.fName) || ((allM l connN).any (fold f.fName) && !keptL.any (fold f.fName))
def stripF (l : List GField) : List GField := l.filter fun f => !struck l f
theorem any_low (name : Str) (l : List Str) : (l.any fun x => lower x == lower name) = l.any (fold name) := by
  congr 1
  funext x
  rw [fold_low, Bool.eq_iff_iff, beq_iff_eq, beq_iff_eq]
  exact ⟨Eq.symm, Eq.symm⟩
theorem strip_conn (ms : List Str) (hl : ms.length ≤ 64) (hm : ∀ m ∈ ms, m.length ≤ 100000) : whileO (hop_Strip_L0 ms) (0, []) = some (ms.foldl (fun m x => mset m (lower x) true) []) := by
  have := while_fold (σ := List (Str × Bool)) (fun st n => (n, st)) ms (fun m x => mset m (lower x) true) id (hop_Strip_L0 ms) (fun _ _ => True) [] trivial ?_ ?_
  · exact this
  · intro n hn st _
    refine ⟨?_, trivial⟩
    show hop_Strip_L0 ms ((n : Int), st) = _
    unfold hop_Strip_L0
    try simp only []
    rw [lt_true hn, bif_true, xnth_get hn, some_bind, Lower_eq _ (by have := hm _ (List.getElem_mem hn); omega), some_bind, wrs (by omega)]
  · intro st _
    show hop_Strip_L0 ms ((ms.length : Int), st) = _
    unfold hop_Strip_L0
    try simp only []
    rw [lt_false (Nat.le_refl _), bif_false]; rfl
theorem filter_loop (l : List GField) (p : GField → Bool) (body : (List GField × Int) → Option ((List GField × Int) ⊕ List GField)) (hl : l.length ≤ 1000000)
    (h : ∀ n (hn : n < l.length) (out : List GField), out.length ≤ n → body (out, (n : Int)) = some (.inl (if p l[n] then out ++ [l[n]] else out, ((n + 1 : Nat) : Int))))
    (h' : ∀ out, body (out, (l.length : Int)) = some (.inr out)) : whileO body ([], 0) = some (l.filter p) := by
  have := while_fold (σ := List GField) (fun st n => (st, n)) l (fun out f => if p f then out ++ [f] else out) id body (fun n out => out.length ≤ n) [] (by simp) (fun n hn st hI => ⟨h n hn st hI, by
    split
    · rw [List.length_append, List.length_singleton]; omega
    · omega⟩) (fun st hI => h' st)
  rw [this]
  congr 1
  have key : ∀ (l : List GField) (acc : List GField), l.foldl (fun out f => if p f then out ++ [f] else out) acc = acc ++ l.filter p := by
    intro l
    induction l with
    | nil => intro acc; simp
    | cons x l ih =>
      intro acc
      rw [List.foldl_cons, ih, List.filter_cons]
      split <;> simp
  show l.foldl _ [] = _
  rw [key, List.nil_append]
theorem Strip_eq (l : List GField) (hl : midL l) : hop_Strip l = some (stripF l) := by
  obtain ⟨h1, h2⟩ := midL_F hl
  obtain ⟨a1, a2⟩ := allM_mid hl connN
  unfold hop_Strip
  rw [All_eq l _ h1 h2 (by decide), some_bind]
  show (whileO (hop_Strip_L0 (allM l connN)) (0, [])).bind _ = _
  rw [strip_conn _ a1 a2, some_bind, some_bind, some_bind]
  have e1 : (pieces 32 [104, 111, 115, 116, 32, 99, 97, 99, 104, 101, 45, 99, 111, 110, 116, 114, 111, 108, 32, 118, 97, 114, 121, 32, 118, 97, 114, 105, 97, 110, 116, 115, 32, 118, 97, 114, 105, 97, 110, 116, 45, 107, 101, 121, 32, 118, 105, 97]) = keptL.map lower := by decide
  have e2 : (pieces 32 [99, 111, 110, 110, 101, 99, 116, 105, 111, 110, 32, 107, 101, 101, 112, 45, 97, 108, 105, 118, 101, 32, 112, 114, 111, 120, 121, 45, 99, 111, 110, 110, 101, 99, 116, 105, 111, 110, 32, 112, 114, 111, 120, 121, 45, 97, 117, 116, 104, 101, 110, 116, 105, 99, 97, 116, 101, 32, 112, 114, 111, 120, 121, 45, 97, 117, 116, 104, 111, 114, 105, 122, 97, 116, 105, 111, 110, 32, 116, 101, 32, 116, 114, 97, 105, 108, 101, 114, 32, 116, 114, 97, 110, 115, 102, 101, 114, 45, 101, 110, 99, 111, 100, 105, 110, 103, 32, 99, 111, 110, 116, 101, 110, 116, 45, 108, 101, 110, 103, 116, 104, 32, 117, 112, 103, 114, 97, 100, 101]) = fixedL.map lower := by decide
  rw [e1, e2]
  rw [filter_loop l (fun f => !struck l f) _ hl.1 ?_ ?_]
  · rfl
  · intro n hn out ho
    have hf := hl.2 _ (List.getElem_mem hn)
    unfold hop_Strip_L1
    simp only []
    rw [lt_true hn, bif_true, xnth_get hn, some_bind]
    generalize l[n] = f at *
    rw [Lower_eq _ (by omega), some_bind, some_bind, wrs (by have := hl.1; omega)]
    have hg : (mget ((fixedL.map lower).foldl (fun m k => mset m k true) ((keptL.map lower).foldl (fun m k => mdel m k) ((allM l connN).foldl (fun m x => mset m (lower x) true) []))) (lower f.fName) false).1 = struck l f := by
      have h3 := fold_set (fun x => x) (lower f.fName) (fixedL.map lower) ((keptL.map lower).foldl (fun m k => mdel m k) ((allM l connN).foldl (fun m x => mset m (lower x) true) []))
      rw [h3, fold_del _ _ _ (ND_fold_set lower _ _ (by unfold ND; simp)), fold_set lower]
      unfold struck
      rw [List.any_map, List.any_map]
      have e4 : ∀ L : List Str, (L.any ((fun x => x == lower f.fName) ∘ lower)) = L.any (fold f.fName) := fun L => any_low f.fName L
      rw [e4, e4, any_low]
      have : (mget ([] : List (Str × Bool)) (lower f.fName) false).1 = false := rfl
      rw [this, Bool.false_or, Bool.or_comm]
    rw [hg]
    cases struck l f with
    | true => rfl
    | false => rw [Bool.not_false, bif_true, xapp_sm (by have := hl.1; omega) (one_sm _), some_bind]; rfl
  · intro out
    unfold hop_Strip_L1
    simp only []
    rw [lt_false (Nat.le_refl _), bif_false]
end Go.Eng.Pure
namespace Go.Eng.Pure
open Go Go.Eng
set_option linter.unusedVariables false
theorem smL_keep {l : List GField} (h : keepF l = true) : smL l := keepF_sm h
def mkS (q : GRequest) (r : GResponse) (rq rc : Int) : GEntry × List GAxis :=
  if ((parV r.fFields).2 == 0 && (parK r.fFields (parV r.fFields).1).2 == 0) = true then (⟨(parK r.fFields (parV r.fFields).1).1, [], [], r.fReason, stripF r.fFields, r.fBody, rq, rc⟩, (parV r.fFields).1)
  else (⟨[], (namesF r.fFields).1, snapF q.fFields (namesF r.fFields).1, r.fReason, stripF r.fFields, r.fBody, rq, rc⟩, [])
theorem names_sm {l : List GField} (h : smL l) : (namesF l).1.length ≤ 64 ∧ ∀ n ∈ (namesF l).1, n.length ≤ 300 := by
  refine ⟨namesF_len h, fun n hn => ?_⟩
  unfold namesF at hn
  split at hn
  · simp at hn
  · have := (names_spec ((allM l varyN).map lower)).2 n
    rw [this] at hn
    obtain ⟨m, hm, rfl⟩ := List.mem_map.1 hn
    rw [lower_len]
    exact (allV_sm h).2 m hm
theorem Make_eq (q : GRequest) (r : GResponse) (rq rc : Int) (hq : smL q.fFields) (hr : smL r.fFields) : entry_Make q r rq rc = some (mkS q r rq rc) := by
  have hm := midL_of hr
  obtain ⟨n1, n2⟩ := names_sm hr
  unfold entry_Make mkS
  rw [Strip_eq _ hm, some_bind, VParse_eq _ hm, some_bind, KParse_eq _ _ hm (parV_smX hm), some_bind]
  cases ((parV r.fFields).2 == 0 && (parK r.fFields (parV r.fFields).1).2 == 0) with
  | true => rfl
  | false => rw [bif_false, Names_eq _ hr, some_bind, Snapshot_eq _ _ hq (by omega) (fun n hn => by have := n2 n hn; omega), some_bind]; rfl
theorem addK_sm (axes : List GAxis) : ∀ (ks out o : List (List Str)), addK axes ks out = some o → o.length ≤ out.length + ks.length ∧ (out ≠ [] → o ≠ []) ∧ (ks ≠ [] → o ≠ []) ∧ ∀ x ∈ o, x ∈ out ∨ ∃ k ∈ ks, (resS axes k).2 = true ∧ (resS axes k).1 = x
  | [], out, o, h => by unfold addK at h; injection h with h; subst h; exact ⟨by simp, fun h => h, fun h => absurd rfl h, fun x h => .inl h⟩
  | k :: ks, out, o, h => by
    unfold addK at h
    split at h
    · rename_i hr
      obtain ⟨h1, h2, h3, h4⟩ := addK_sm axes ks _ o h
      have hne : (if out.any (fun k_1 => k_1 == (resS axes k).1) = true then out else out ++ [(resS axes k).1]) ≠ [] := by
        split
        · rename_i ha; intro e; rw [e] at ha; simp at ha
        · simp
      refine ⟨?_, fun _ => h2 hne, fun _ => h2 hne, fun x hx => ?_⟩
      · have : (if out.any (fun k_1 => k_1 == (resS axes k).1) = true then out else out ++ [(resS axes k).1]).length ≤ out.length + 1 := by split <;> simp
        simp only [List.length_cons]; omega
      · rcases h4 x hx with h | ⟨k', hk', e⟩
        · split at h
          · exact .inl h
          · rcases List.mem_append.1 h with h | h
            · exact .inl h
            · rw [List.mem_singleton] at h; subst h; exact .inr ⟨k, by simp, hr, rfl⟩
        · exact .inr ⟨k', by simp [hk'], e⟩
    · cases h
theorem resS_len {axes : List GAxis} {k : List Str} (h : (resS axes k).2 = true) : (resS axes k).1.length = axes.length := by
  have gen : ∀ (al : List GAxis) (kl acc out : List Str), kl.length = al.length → resL al kl acc = some out → out.length = acc.length + al.length := by
    intro al
    induction al with
    | nil => intro kl acc out hl h; unfold resL at h; cases kl <;> (injection h with h; subst h; simp)
    | cons a al ih =>
      intro kl acc out hl h
      cases kl with
      | nil => cases hl
      | cons k kl =>
        unfold resL at h
        cases hf : a.fValues.find? (samV a k) with
        | none => rw [hf] at h; cases h
        | some v =>
          rw [hf] at h
          have := ih kl _ out (by simpa using hl) h
          simp only [List.length_append, List.length_cons, List.length_nil] at this ⊢; omega
  unfold resS at h ⊢
  split at h
  · rename_i hl
    rw [if_pos hl]
    cases hr : resL axes k [] with
    | none => rw [hr] at h; cases h
    | some o => simpa using gen axes k [] o hl hr
  · cases h
theorem parK_facts {l : List GField} {axes : List GAxis} (hl : midL l) (h : (parK l axes).2 = 0) : valB axes = true ∧ (parK l axes).1 ≠ [] ∧ (parK l axes).1.length ≤ 64 ∧ ∀ k ∈ (parK l axes).1, k.length = axes.length := by
  unfold parK at h ⊢
  cases hv : valB axes with
  | false => rw [hv] at h; exact absurd h (by simp)
  | true =>
    rw [hv, if_pos rfl] at h
    rw [if_pos rfl]
    by_cases h0 : (allM l keyN).length = 0
    · rw [if_pos h0] at h; exact absurd h (by simp)
    · rw [if_neg h0] at h
      rw [if_neg h0]
      cases ho : optL memK (allM l keyN) with
      | none => rw [ho] at h; exact absurd h (by simp)
      | some ks =>
        rw [ho] at h
        simp only [] at h ⊢
        cases ha : addK axes ks [] with
        | none => rw [ha] at h; exact absurd h (by simp)
        | some o =>
          simp only []
          obtain ⟨a1, a2, a3, a4⟩ := addK_sm axes ks [] o ha
          obtain ⟨o1, o2⟩ := optK_sm hl ho
          have hl2 := (optL_len _ _ _ ho).1
          refine ⟨trivial, a3 (fun e => h0 (by rw [← hl2, e]; rfl)), by simp only [List.length_nil] at a1; omega, fun k hk => ?_⟩
          rcases a4 k hk with h | ⟨k', _, h1, h2⟩
          · simp at h
          · rw [← h2]; exact resS_len h1
theorem EntryFits_true (q : GRequest) (r : GResponse) (rq rc : Int) : law26_EntryFits q r rq rc = some true := by
  unfold law26_EntryFits
  rw [keep_Request_eq, some_bind, keep_Response_eq, some_bind]
  cases hq : keepQ q with
  | false => rfl
  | true =>
    cases hr : keepR r with
    | false => rfl
    | true =>
      unfold keepQ at hq
      unfold keepR at hr
      simp only [Bool.and_eq_true] at hq hr
      have h1 := smL_keep hq.1.2
      have h2 := smL_keep hr.1.2
      have hm := midL_of h2
      simp only [Bool.not_true, bif_false, some_bind]
      rw [Make_eq _ _ _ _ h1 h2, some_bind]
      unfold mkS
      by_cases h : ((parV r.fFields).2 == 0 && (parK r.fFields (parV r.fFields).1).2 == 0) = true
      · rw [if_pos h]
        simp only []
        rw [Bool.and_eq_true, beq_iff_eq, beq_iff_eq] at h
        obtain ⟨k1, k2, k3, k4⟩ := parK_facts hm h.2
        have hne : 0 < (parV r.fFields).1.length := by
          have := k1
          unfold valB at this
          simp only [Bool.and_eq_true, decide_eq_true_eq] at this
          omega
        have hkl : 0 < (parK r.fFields (parV r.fFields).1).1.length := List.length_pos_iff.2 k2
        rw [show decide ((0 : Int) < ((parV r.fFields).1.length : Int)) = true from decide_eq_true (by omega), bif_true, show decide ((0 : Int) < ((parK r.fFields (parV r.fFields).1).1.length : Int)) = true from decide_eq_true (by omega)]
        rw [RValid_eq _ (fun a ha => ((parV_smX hm).2 a ha).1), k1, awake26]
        rfl
      · rw [if_neg h]
        obtain ⟨n1, n2⟩ := names_sm h2
        simp only []
        rw [show decide ((0 : Int) < (([] : List GAxis).length : Int)) = false from rfl, bif_false, show ((([] : List (List Str)).length : Int) == 0) = true from rfl, bif_true, RMatch_eq _ _ _ h1 (by omega) (fun n hn => by have := n2 n hn; omega), awake26]
        simp
end Go.Eng.Pure
