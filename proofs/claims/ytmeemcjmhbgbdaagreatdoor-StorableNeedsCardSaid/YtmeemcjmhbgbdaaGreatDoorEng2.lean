/- The engine, part 2: what is known of memory, and what each operation yields. -/
import Derived.Test.YtmeemcjmhbgbdaaGreatDoorEng1
namespace Go.Eng
open Go

/-! ### values -/
abbrev Str := List UInt8
def str (l : Str) : Value := .string ⟨⟨l⟩⟩
def int (n : Int) : Value := .int .i64 n
def byt (c : UInt8) : Value := .int .u8 (c.toNat : Int)
def boo (b : Bool) : Value := .bool b
def agg (l : List Value) : Value := .agg ⟨l⟩
def ptr (b o : Nat) : Value := .pointer (some ⟨b, o, none⟩)

/-! ### memory: what is settled (H), what is the call's own (L) -/
abbrev Hp := Nat → Option (TypeId × List Value)
def Hp.le (H H' : Hp) : Prop := ∀ b T l, H b = some (T, l) → ∃ l', H' b = some (T, l ++ l')
theorem Hp.le.refl (H : Hp) : H.le H := fun _ _ _ h => ⟨[], by simpa using h⟩
theorem Hp.le.trans {A B C : Hp} (h : A.le B) (k : B.le C) : A.le C := fun b T l hl => by
  obtain ⟨l', h'⟩ := h b T l hl
  obtain ⟨l'', h''⟩ := k b T _ h'
  exact ⟨l' ++ l'', by rw [h'', List.append_assoc]⟩
def Holds (w : World) (H : Hp) : Prop := ∀ b T l, H b = some (T, l) → ∃ cs fz, w.heap[b]? = some (.cells cs T fz) ∧ ∃ r, cs.toList = l ++ r
theorem Holds.none_of_size {w : World} {H : Hp} (h : Holds w H) {b : Nat} (hb : w.heap.size ≤ b) : H b = none := by
  cases hh : H b with
  | none => rfl
  | some x =>
    obtain ⟨T, l⟩ := x
    obtain ⟨cs, fz, hc, _⟩ := h b T l hh
    have := (Array.getElem?_eq_some_iff.1 hc).1
    omega
/-- The cells from an address on. -/
def At (H : Hp) (a : Addr) (cs : List Value) : Prop := ∃ T l, a.spot = none ∧ H a.block = some (T, l) ∧ ∃ r, l.drop a.off = cs ++ r
theorem At.mono {H H' : Hp} {a : Addr} {cs : List Value} (h : At H a cs) (hl : H.le H') (hcs : cs ≠ []) : At H' a cs := by
  obtain ⟨T, l, hs, hH, r, hr⟩ := h
  obtain ⟨l', h'⟩ := hl _ _ _ hH
  refine ⟨T, _, hs, h', r ++ l', ?_⟩
  have hlt : a.off ≤ l.length := by
    by_cases h : a.off ≤ l.length
    · exact h
    · rw [List.drop_eq_nil_of_le (by omega)] at hr
      cases cs with
      | nil => exact absurd rfl hcs
      | cons _ _ => cases hr
  rw [List.drop_append_of_le_length hlt, hr, List.append_assoc]
theorem At.cell {w : World} {H : Hp} {a : Addr} {cs : List Value} (h : At H a cs) (hw : Holds w H) {j : Nat} {v : Value} (hv : cs[j]? = some v) : w.cell? (a.add j) = some v := by
  obtain ⟨T, l, hs, hH, r, hr⟩ := h
  obtain ⟨arr, fz, hc, r', hr'⟩ := hw _ _ _ hH
  have e : a.add j = ⟨a.block, a.off + j, none⟩ := by
    unfold Addr.add
    split
    · rename_i h0; subst h0; cases a; simp at hs; subst hs; rfl
    · cases a; rfl
  rw [e, cell_of_row w a.block (a.off + j) arr T fz hc, ← Array.getElem?_toList, hr']
  have h1 : l[a.off + j]? = some v := by
    rw [← List.getElem?_drop, hr, List.getElem?_append_left (List.getElem?_eq_some_iff.1 hv).1]; exact hv
  rw [List.getElem?_append_left (List.getElem?_eq_some_iff.1 h1).1]; exact h1
theorem At.add {H : Hp} {a : Addr} {cs : List Value} (h : At H a cs) (n : Nat) (hn : n < cs.length) : At H (a.add n) (cs.drop n) := by
  obtain ⟨T, l, hs, hH, r, hr⟩ := h
  have e : a.add n = ⟨a.block, a.off + n, none⟩ := by
    unfold Addr.add
    split
    · rename_i h0; subst h0; cases a; simp at hs; subst hs; rfl
    · cases a; rfl
  rw [e]
  refine ⟨T, l, rfl, hH, r, ?_⟩
  show l.drop (a.off + n) = _
  rw [← List.drop_drop, hr, List.drop_append_of_le_length (by omega)]

/-- What a call has of its own: a variable's block; a slice that it may append to. -/
inductive Ent where
  | box (b : Nat) (T : TypeId) (cs : List Value)
  | row (v : Value) (T : TypeId) (sz n : Nat)
  | mp (b : Nat) (kvs : List (Value × Value))
def Ent.blk : Ent → Option Nat
  | .box b _ _ => some b
  | .mp b _ => some b
  | .row v _ _ _ => v.ownBlock
def BoxOk (w : World) (H : Hp) (b : Nat) (T : TypeId) (cs : List Value) : Prop :=
  H b = none ∧ ∃ arr fz, w.heap[b]? = some (.cells arr T fz) ∧ (∃ r, arr.toList = cs ++ r) ∧ ∀ i, i < cs.length → ¬ (fz.1 ≤ i ∧ i < fz.2)
def RowOk (w : World) (H : Hp) (v : Value) (T : TypeId) (sz n : Nat) : Prop :=
  (v = .slice none 0 0 ∧ n = 0) ∨ ∃ g cap cur, v = .slice (some ⟨g, 0, none⟩) n cap ∧ w.heap[g]? = some (.cells cur T (0, 0)) ∧ n ≤ cap ∧ cap ≤ maxLen ∧ cur.size = cap * sz ∧ H g = some (T, cur.toList.take (n * sz))
def MpOk (w : World) (H : Hp) (b : Nat) (kvs : List (Value × Value)) : Prop :=
  H b = none ∧ ∃ es clock, w.heap[b]? = some (.map es clock) ∧ es.toList.map (fun e => (e.key, e.val)) = kvs
def Ent.ok (w : World) (H : Hp) : Ent → Prop
  | .box b T cs => BoxOk w H b T cs
  | .mp b kvs => MpOk w H b kvs
  | .row v T sz n => RowOk w H v T sz n
theorem Ent.ok_lt {w : World} {H : Hp} {e : Ent} (h : e.ok w H) {b : Nat} (hb : e.blk = some b) : b < w.heap.size := by
  cases e with
  | box b' T cs =>
    obtain ⟨_, arr, fz, hc, _⟩ := (show BoxOk w H b' T cs from h)
    simp [Ent.blk] at hb; subst hb
    exact (Array.getElem?_eq_some_iff.1 hc).1
  | mp b' kvs =>
    obtain ⟨_, es, cl, hc, _⟩ := (show MpOk w H b' kvs from h)
    simp [Ent.blk] at hb; subst hb
    exact (Array.getElem?_eq_some_iff.1 hc).1
  | row v T sz n =>
    rcases (show RowOk w H v T sz n from h) with ⟨rfl, _⟩ | ⟨g, cap, cur, rfl, hc, _⟩
    · simp [Ent.blk, Value.ownBlock] at hb
    · simp [Ent.blk, Value.ownBlock] at hb; subst hb
      exact (Array.getElem?_eq_some_iff.1 hc).1
theorem Ent.ok_keep {w w' : World} {H H' : Hp} {e : Ent} (h : e.ok w H) (hk : ∀ b, e.blk = some b → w'.heap[b]? = w.heap[b]? ∧ H' b = H b) : e.ok w' H' := by
  cases e with
  | box b T cs =>
    obtain ⟨h1, h2⟩ := hk b rfl
    show BoxOk w' H' b T cs
    have h' : BoxOk w H b T cs := h
    unfold BoxOk at h' ⊢
    rw [h1, h2]; exact h'
  | mp b kvs =>
    obtain ⟨h1, h2⟩ := hk b rfl
    show MpOk w' H' b kvs
    have h' : MpOk w H b kvs := h
    unfold MpOk at h' ⊢
    rw [h1, h2]; exact h'
  | row v T sz n =>
    have h0 : RowOk w H v T sz n := h
    rcases h0 with h0 | ⟨g, cap, cur, rfl, h0⟩
    · exact .inl h0
    · obtain ⟨h1, h2⟩ := hk g rfl
      refine .inr ⟨g, cap, cur, rfl, ?_⟩
      rw [h1, h2]; exact h0

/-- What a call leaves: nothing that was there has turned; what is settled has grown, in new blocks alone. -/
structure Post (w0 : World) (H0 : Hp) (w : World) (H : Hp) : Prop where
  below : RowKit.Below w0.heap.size w0 w
  le : H0.le H
  eqb : ∀ b, b < w0.heap.size → H b = H0 b
  holds : Holds w H
structure St (w0 : World) (H0 : Hp) (w : World) (H : Hp) (L : List Ent) : Prop where
  post : Post w0 H0 w H
  ents : ∀ e ∈ L, e.ok w H
  own : ∀ e ∈ L, ∀ b, e.blk = some b → w0.heap.size ≤ b
  nodup : (L.filterMap Ent.blk).Nodup

section
variable {w0 w w' : World} {H0 H H' : Hp} {L : List Ent}
theorem St.start (h : Holds w H) : St w H w H [] := ⟨⟨RowKit.Below.refl _ _, Hp.le.refl _, fun _ _ => rfl, h⟩, by simp, by simp, by simp⟩
theorem St.holds (S : St w0 H0 w H L) : Holds w H := S.post.holds
theorem St.lt (S : St w0 H0 w H L) {b : Nat} (hb : b ∈ L.filterMap Ent.blk) : b < w.heap.size := by
  obtain ⟨e, he, hb⟩ := List.mem_filterMap.1 hb
  exact Ent.ok_lt (S.ents e he) hb
theorem Post.trans {w1 : World} {H1 : Hp} (p : Post w0 H0 w1 H1) (q : Post w1 H1 w H) : Post w0 H0 w H :=
  ⟨p.below.trans (q.below.mono p.below.size), p.le.trans q.le, fun b hb => (q.eqb b (Nat.lt_of_lt_of_le hb p.below.size)).trans (p.eqb b hb), q.holds⟩
/-- Behind a call. -/
theorem St.call (S : St w0 H0 w H L) (p : Post w H w' H') : St w0 H0 w' H' L :=
  ⟨S.post.trans p, fun e he => Ent.ok_keep (S.ents e he) fun b hb => ⟨p.below.block b (Ent.ok_lt (S.ents e he) hb), p.eqb b (Ent.ok_lt (S.ents e he) hb)⟩, S.own, S.nodup⟩
/-- A new block, of the call's own. -/
theorem St.box (S : St w0 H0 w H L) (T : TypeId) (arr : Array Value) (fz : Nat × Nat) (cs r : List Value) (hr : arr.toList = cs ++ r) (hf : ∀ i, i < cs.length → ¬ (fz.1 ≤ i ∧ i < fz.2)) :
    St w0 H0 (w.alloc (.cells arr T fz)) H (.box w.heap.size T cs :: L) := by
  have hsz : w0.heap.size ≤ w.heap.size := S.post.below.size
  have hold : ∀ i, i < w.heap.size → (w.alloc (.cells arr T fz)).heap[i]? = w.heap[i]? := fun i hi => RowKit.Below.heap_alloc w _ i hi
  have hH : H w.heap.size = none := S.holds.none_of_size (Nat.le_refl _)
  refine ⟨⟨S.post.below.alloc hsz _, S.post.le, S.post.eqb, fun b T' l hb => ?_⟩, ?_, ?_, ?_⟩
  · obtain ⟨cs', fz', hc, hr'⟩ := S.holds b T' l hb
    exact ⟨cs', fz', by rw [hold b (Array.getElem?_eq_some_iff.1 hc).1]; exact hc, hr'⟩
  · intro e he
    rcases List.mem_cons.1 he with rfl | he
    · exact ⟨hH, arr, fz, heap_alloc_new w _, ⟨r, hr⟩, hf⟩
    · exact Ent.ok_keep (S.ents e he) fun b hb => ⟨hold b (Ent.ok_lt (S.ents e he) hb), rfl⟩
  · intro e he b hb
    rcases List.mem_cons.1 he with rfl | he
    · simp [Ent.blk] at hb; omega
    · exact S.own e he b hb
  · have : (Ent.box w.heap.size T cs).blk = some w.heap.size := rfl
    rw [List.filterMap_cons, this]
    exact List.nodup_cons.2 ⟨fun hm => Nat.lt_irrefl _ (S.lt hm), S.nodup⟩
/-- What is forgotten. -/
theorem St.drop (S : St w0 H0 w H L) (L' : List Ent) (h : L'.Sublist L) : St w0 H0 w H L' :=
  ⟨S.post, fun e he => S.ents e (h.subset he), fun e he => S.own e (h.subset he), S.nodup.sublist (h.filterMap _)⟩
theorem St.drew (S : St w0 H0 w H L) : St w0 H0 w.drew H L :=
  ⟨⟨S.post.below.drew, S.post.le, S.post.eqb, S.post.holds⟩, fun e he => Ent.ok_keep (S.ents e he) fun _ _ => ⟨rfl, rfl⟩, S.own, S.nodup⟩
theorem St.blk_ne (S : St w0 H0 w H L) {i j : Nat} {e e' : Ent} {b b' : Nat} (hi : L[i]? = some e) (hj : L[j]? = some e') (hb : e.blk = some b) (hb' : e'.blk = some b') (hij : i ≠ j) : b ≠ b' := by
  have key : ∀ (L : List Ent), (L.filterMap Ent.blk).Nodup → ∀ (i j : Nat), L[i]? = some e → L[j]? = some e' → i ≠ j → b ≠ b' := by
    intro L
    induction L with
    | nil => intro _ i j hi; simp at hi
    | cons x L ih =>
      intro hn i j hi hj hij
      cases i with
      | zero =>
        simp at hi; subst hi
        rw [List.filterMap_cons, hb] at hn
        cases j with
        | zero => exact absurd rfl hij
        | succ j =>
          simp at hj
          intro h; subst h
          exact (List.nodup_cons.1 hn).1 (List.mem_filterMap.2 ⟨e', List.mem_of_getElem? hj, hb'⟩)
      | succ i =>
        have hn' : (L.filterMap Ent.blk).Nodup := by
          rw [List.filterMap_cons] at hn
          split at hn
          · exact hn
          · exact (List.nodup_cons.1 hn).2
        simp at hi
        cases j with
        | zero =>
          simp at hj; subst hj
          rw [List.filterMap_cons, hb'] at hn
          intro h; subst h
          exact (List.nodup_cons.1 hn).1 (List.mem_filterMap.2 ⟨e, List.mem_of_getElem? hi, hb⟩)
        | succ j => simp at hj; exact ih hn' i j hi hj (by omega)
  exact key L S.nodup i j hi hj hij
theorem filterMap_set {L : List Ent} {i : Nat} {e e' : Ent} (hi : L[i]? = some e) (hb : e'.blk = e.blk) : (L.set i e').filterMap Ent.blk = L.filterMap Ent.blk := by
  induction L generalizing i with
  | nil => rfl
  | cons x L ih =>
    cases i with
    | zero => simp at hi; subst hi; simp [List.filterMap_cons, hb]
    | succ i => simp at hi; simp [List.filterMap_cons, ih hi]
/-- A store into a variable's block. -/
def splice (cs : List Value) (o : Nat) (vs : List Value) : List Value := cs.take o ++ vs ++ cs.drop (o + vs.length)
theorem St.stored (S : St w0 H0 w H L) {i b : Nat} {T : TypeId} {cs cs' : List Value} (hi : L[i]? = some (.box b T cs)) (hlen : cs'.length = cs.length)
    (hoth : ∀ k, k ≠ b → w'.heap[k]? = w.heap[k]?) (hsz : w'.heap.size = w.heap.size) (hos : w'.os = w.os ∧ w'.tape = w.tape ∧ w'.output = w.output)
    (hb : ∀ arr fz r, w.heap[b]? = some (.cells arr T fz) → arr.toList = cs ++ r → ∃ arr', w'.heap[b]? = some (.cells arr' T fz) ∧ arr'.toList = cs' ++ r) : St w0 H0 w' H (L.set i (.box b T cs')) := by
  have hmem := List.mem_of_getElem? hi
  obtain ⟨hH, arr, fz, hc, ⟨r, hr⟩, hf⟩ := (show BoxOk w H b T cs from S.ents _ hmem)
  obtain ⟨arr', hc', hr'⟩ := hb arr fz r hc hr
  have hown : w0.heap.size ≤ b := S.own _ hmem b rfl
  refine ⟨⟨S.post.below.trans ⟨hos.1, hos.2.1, hos.2.2, by omega, fun k hk => hoth k (by omega)⟩, S.post.le, S.post.eqb, ?_⟩, ?_, ?_, ?_⟩
  · intro k T' l hk
    have hne : k ≠ b := fun h => by subst h; rw [hH] at hk; cases hk
    rw [hoth k hne]; exact S.holds k T' l hk
  · intro e he
    obtain ⟨j, hj⟩ := List.mem_iff_getElem?.1 he
    by_cases hij : i = j
    · subst hij
      have hlt := (List.getElem?_eq_some_iff.1 hi).1
      rw [List.getElem?_set_self hlt] at hj
      simp at hj; subst hj
      exact ⟨hH, arr', fz, hc', ⟨r, hr'⟩, by rw [hlen]; exact hf⟩
    · rw [List.getElem?_set_ne hij] at hj
      refine Ent.ok_keep (S.ents e (List.mem_of_getElem? hj)) fun k hk => ⟨hoth k ?_, rfl⟩
      exact S.blk_ne hj hi hk rfl (Ne.symm hij)
  · intro e he k hk
    obtain ⟨j, hj⟩ := List.mem_iff_getElem?.1 he
    by_cases hij : i = j
    · subst hij
      have hlt := (List.getElem?_eq_some_iff.1 hi).1
      rw [List.getElem?_set_self hlt] at hj
      simp at hj; subst hj
      simp [Ent.blk] at hk; omega
    · rw [List.getElem?_set_ne hij] at hj
      exact S.own e (List.mem_of_getElem? hj) k hk
  · rw [filterMap_set (e' := .box b T cs') hi rfl]; exact S.nodup
/-- A block of the call's own is settled: it will not be written again. -/
theorem St.settle (S : St w0 H0 w H L) {i b : Nat} {T : TypeId} {cs : List Value} (hi : L[i]? = some (.box b T cs)) :
    ∃ H', H.le H' ∧ H' b = some (T, cs) ∧ (∀ k, k ≠ b → H' k = H k) ∧ St w0 H0 w H' (L.eraseIdx i) := by
  have hmem := List.mem_of_getElem? hi
  obtain ⟨hH, arr, fz, hc, ⟨r, hr⟩, hf⟩ := (show BoxOk w H b T cs from S.ents _ hmem)
  have hown : w0.heap.size ≤ b := S.own _ hmem b rfl
  refine ⟨fun k => if k = b then some (T, cs) else H k, ?_, by simp, fun k hk => by simp [hk], ?_⟩
  · intro k T' l hk
    by_cases h : k = b
    · subst h; rw [hH] at hk; cases hk
    · exact ⟨[], by simp [h, hk]⟩
  · have hle : H.le (fun k => if k = b then some (T, cs) else H k) := by
      intro k T' l hk
      by_cases h : k = b
      · subst h; rw [hH] at hk; cases hk
      · exact ⟨[], by simp [h, hk]⟩
    refine ⟨⟨S.post.below, S.post.le.trans hle, fun k hk => ?_, ?_⟩, ?_, ?_, ?_⟩
    · show (if k = b then some (T, cs) else H k) = H0 k
      rw [if_neg (by omega)]; exact S.post.eqb k hk
    · intro k T' l hk
      by_cases h : k = b
      · subst h
        simp at hk
        obtain ⟨rfl, rfl⟩ := hk
        exact ⟨arr, fz, hc, r, hr⟩
      · simp [h] at hk; exact S.holds k T' l hk
    · intro e he
      obtain ⟨j, hj⟩ := List.mem_iff_getElem?.1 he
      rw [List.getElem?_eraseIdx] at hj
      split at hj
      · rename_i hlt
        refine Ent.ok_keep (S.ents e (List.mem_of_getElem? hj)) fun k hk => ⟨rfl, ?_⟩
        exact if_neg (S.blk_ne hj hi hk rfl (by omega))
      · rename_i hlt
        refine Ent.ok_keep (S.ents e (List.mem_of_getElem? hj)) fun k hk => ⟨rfl, ?_⟩
        exact if_neg (S.blk_ne hj hi hk rfl (by omega))
    · exact fun e he => S.own e ((List.eraseIdx_sublist _ _).subset he)
    · exact S.nodup.sublist ((List.eraseIdx_sublist _ _).filterMap _)
end

/-! ### types: what is asked of the program's table -/
/-- Is it a struct or array, and how many cells has it? -/
def lay (P : Program) (T : TypeId) : Option (Bool × Nat) :=
  match P.underlying T, P.info? T with
  | some (.struct _), some i => some (true, i.size)
  | some (.array _ _), some i => some (true, i.size)
  | some _, some i => some (false, i.size)
  | _, _ => none
section
variable {P : Program} {N : Nat} {f : Fr} {w : World}
theorem run_isAgg {T : TypeId} {b : Bool} {n : Nat} (h : lay P T = some (b, n)) : (isAgg T).run P w = .ok b w ∧ (sizeOf T).run P w = .ok n w := by
  unfold lay at h
  split at h <;> simp_all [isAgg, sizeOf, typeInfo, run_underlying]
end
end Go.Eng
