/- The engine, part 15: a row of one's own is turned in place: sorted, made compact; slices cut in a region that draws and writes. -/
import Derived.Test.YtmeemcjmhbgbdaaGreatDoorEng14
import Derived.Sort.Grow
import Derived.Sort.EncStr
import Derived.Lib.SlicesCompact
namespace Go.Eng
open Go Go.RowKit
section
variable {P : Program} {N : Nat} {f : Fr} {w w' w0 : World} {H0 H : Hp} {L : List Ent} {ops : Array Oper} {rest : List Oper} {Q : Fr → World → Prop} {d : Nat} {od : Option Nat} {ty : TypeId} {pos : String} {af : Array Edge}
/-- A row of the call's own is written anew, as a whole. -/
theorem St.turnRow (S : St w0 H0 w H L) (hw : Holds w0 H0) {i g n n' cap sz : Nat} {T : TypeId} {cur' : Array Value}
    (hi : L[i]? = some (.row (.slice (some ⟨g, 0, none⟩) n cap) T sz n)) (hoth : ∀ k, k ≠ g → k < w.heap.size → w'.heap[k]? = w.heap[k]?) (hsz : w.heap.size ≤ w'.heap.size)
    (hos : w'.os = w.os ∧ w'.tape = w.tape ∧ w'.output = w.output) (hg : w'.heap[g]? = some (.cells cur' T (0, 0))) (hc : cur'.size = cap * sz) (hn : n' ≤ cap) (hcap : cap ≤ maxLen) :
    ∃ H', H0.le H' ∧ H' g = some (T, cur'.toList.take (n' * sz)) ∧ St w0 H0 w' H' (L.set i (.row (.slice (some ⟨g, 0, none⟩) n' cap) T sz n')) := by
  have hmem := List.mem_of_getElem? hi
  have hown : w0.heap.size ≤ g := S.own _ hmem g rfl
  have hgl : g < w.heap.size := S.lt (List.mem_filterMap.2 ⟨_, hmem, rfl⟩)
  have h0g : H0 g = none := hw.none_of_size hown
  have hle : H0.le (fun k => if k = g then some (T, cur'.toList.take (n' * sz)) else H k) := by
    intro k T' l hk
    by_cases h : k = g
    · subst h; rw [h0g] at hk; cases hk
    · obtain ⟨l', hl'⟩ := S.post.le k T' l hk
      exact ⟨l', by simp only [if_neg h]; exact hl'⟩
  refine ⟨fun k => if k = g then some (T, cur'.toList.take (n' * sz)) else H k, hle, by simp, ?_⟩
  refine ⟨⟨S.post.below.trans ⟨hos.1, hos.2.1, hos.2.2, hsz, fun k hk => hoth k (by omega) (by have := S.post.below.size; omega)⟩, hle, fun k hk => ?_, ?_⟩, ?_, ?_, ?_⟩
  · show (if k = g then _ else H k) = H0 k
    rw [if_neg (by omega)]; exact S.post.eqb k hk
  · intro k T' l hk
    by_cases h : k = g
    · subst h
      simp at hk
      obtain ⟨rfl, rfl⟩ := hk
      exact ⟨cur', (0, 0), hg, cur'.toList.drop (n' * sz), (List.take_append_drop _ _).symm⟩
    · simp only [if_neg h] at hk
      obtain ⟨cs, fz, hc', hr⟩ := S.holds k T' l hk
      exact ⟨cs, fz, by rw [hoth k h (Array.getElem?_eq_some_iff.1 hc').1]; exact hc', hr⟩
  · intro e he
    obtain ⟨j, hj⟩ := List.mem_iff_getElem?.1 he
    by_cases hij : i = j
    · subst hij
      have hlt := (List.getElem?_eq_some_iff.1 hi).1
      rw [List.getElem?_set_self hlt] at hj
      simp at hj; subst hj
      exact .inr ⟨g, cap, cur', rfl, hg, hn, hcap, hc, by simp⟩
    · rw [List.getElem?_set_ne hij] at hj
      refine Ent.ok_keep (S.ents e (List.mem_of_getElem? hj)) fun k hk => ?_
      have hne : k ≠ g := S.blk_ne hj hi hk rfl (Ne.symm hij)
      exact ⟨hoth k hne (Ent.ok_lt (S.ents e (List.mem_of_getElem? hj)) hk), if_neg hne⟩
  · intro e he k hk
    obtain ⟨j, hj⟩ := List.mem_iff_getElem?.1 he
    by_cases hij : i = j
    · subst hij
      have hlt := (List.getElem?_eq_some_iff.1 hi).1
      rw [List.getElem?_set_self hlt] at hj
      simp at hj; subst hj
      simp [Ent.blk, Value.ownBlock] at hk; omega
    · rw [List.getElem?_set_ne hij] at hj
      exact S.own e (List.mem_of_getElem? hj) k hk
  · rw [filterMap_set (e' := .row (.slice (some ⟨g, 0, none⟩) n' cap) T sz n') hi rfl]; exact S.nodup

theorem putRow_at {w : World} {g : Nat} {cur : Array Value} {T : TypeId} {fz : Nat × Nat} {d : Array Str} (h : w.heap[g]? = some (.cells cur T fz)) (hd : d.size ≤ cur.size) :
    ∃ cur', (Sort.putRow Proofs.encStr w g 0 d).heap[g]? = some (.cells cur' T fz) ∧ cur'.size = cur.size ∧ cur'.toList.take d.size = d.toList.map str := by
  refine ⟨Sort.putCells Proofs.encStr 0 d cur, ?_, by simp [Sort.putCells], ?_⟩
  · simp [Sort.putRow, Sort.mapBlock, Array.getElem?_modify, h, Sort.onCells]
  · apply List.ext_getElem?
    intro k
    by_cases hk : k < d.size
    · rw [List.getElem?_take_of_lt hk]
      have h2 : k < cur.size := by omega
      simp [Sort.putCells, hk, h2, str, Proofs.encStr]
    · rw [List.getElem?_eq_none (by simp; omega), List.getElem?_eq_none (by simp; omega)]
theorem putRow_oth {w : World} {g k : Nat} {d : Array Str} (h : k ≠ g) : (Sort.putRow Proofs.encStr w g 0 d).heap[k]? = w.heap[k]? := by
  simp [Sort.putRow, Sort.mapBlock, Array.getElem?_modify, Ne.symm h]
/-- The row's cells, as the shelf's contracts want them. -/
theorem holds_row {w : World} {H : Hp} {g : Nat} {cur : Array Value} {T : TypeId} {xs : List Str} {cap : Nat} (hw : Holds w H) (hg : w.heap[g]? = some (.cells cur T (0, 0))) (hR : Sl H (.slice (some ⟨g, 0, none⟩) xs.length cap) xs) :
    Sort.Holds Proofs.encStr w g 0 xs.toArray := by
  intro j hj
  have hj : j < xs.length := by simpa using hj
  obtain ⟨a, c, hv, _, _, h3⟩ := hR
  rcases h3 with h3 | ⟨b, off, cs, ha, hat, hC⟩
  · subst h3; simp at hj
  · subst ha
    simp only [Value.slice.injEq, Option.some.injEq, Addr.mk.injEq] at hv
    obtain ⟨⟨rfl, rfl, _⟩, _⟩ := hv
    have hcs := hC.strs
    have hget : cs[j]? = some (str xs[j]) := by rw [hcs]; simp [hj]
    refine ⟨?_, ?_⟩
    · have := hat.cell hw hget
      rw [Addr.add_lit, Nat.zero_add] at this
      rw [Nat.zero_add, this]
      simp [hj, str, Proofs.encStr]
    · simp [World.frozen?, hg]
/-- slices.Sort at []string. -/
structure SortCon (P : Program) (k : FuncId) : Prop where
  enter : ∀ (args : Array Value) (w : World), (callFunc k args).run P w = .ok (.enter k args) w
  none : ∀ (p : Option Addr) (cap : Nat) (w : World), Calls P k #[.slice p 0 cap] w fun e w' => e = .returned (.tuple #[]) ∧ w' = w
  some : ∀ (blk off cap : Nat) (ss : List Str) (w : World), Sort.Holds Proofs.encStr w blk off ss.toArray → blk < w.heap.size → ss.length < 4611686018427387904 →
    Calls P k #[.slice (some ⟨blk, off, .none⟩) ss.length cap] w fun e w' => e = .returned (.tuple #[]) ∧ ∃ n os, w' = Sort.grow (Sort.putRow Proofs.encStr (Sort.ahead w n) blk off (ss.mergeSort fun x y => decide (x ≤ y)).toArray) os
def sortS (l : List Str) : List Str := l.mergeSort fun x y => decide (x ≤ y)
theorem sortS_len (l : List Str) : (sortS l).length = l.length := List.length_mergeSort l
noncomputable def slices_Sort_string (l : List Str) : Option (List Str) := if l.length ≤ big then some (sortS l) else none
noncomputable def slices_Compact_string (l : List Str) : Option (List Str) := some (Lib.compact l)
theorem strs_Cells {H : Hp} : ∀ {xs : List Str}, Cells (α := Str) H (xs.map str) xs
  | [] => rfl
  | x :: xs => ⟨[str x], xs.map str, rfl, rfl, strs_Cells⟩
theorem W.sortRow {k : FuncId} {x : Operand} {ats : Array TypeId} {v : Value} {xs ys : List Str} {i : Nat} {T : TypeId} (C : SortCon P k) (hw : Holds w0 H0) (S : St w0 H0 w H L) (hi : L[i]? = some (.row v T 1 xs.length)) (hx : ev N f x = v) (hR : Sl H v xs)
    (h : slices_Sort_string xs = some ys)
    (K : ∀ w' H', H0.le H' → Sl H' v ys → St w0 H0 w' H' (L.set i (.row v T 1 ys.length)) → WL P N ops rest Q (updo f od (.tuple #[])) w') : WL P N ops (⟨od, .call ⟨.value (.func k), #[x], ats⟩, ty, pos, af, none⟩ :: rest) Q f w := by
  have hbig : xs.length ≤ big := by
    unfold slices_Sort_string at h
    split at h
    · assumption
    · cases h
  obtain rfl : sortS xs = ys := by
    unfold slices_Sort_string at h
    rw [if_pos hbig] at h
    exact Option.some.inj h
  have hset : L.set i (.row v T 1 (sortS xs).length) = L := by
    rw [sortS_len]
    apply List.ext_getElem?
    intro j
    by_cases hij : i = j
    · subst hij; rw [List.getElem?_set_self (List.getElem?_eq_some_iff.1 hi).1, hi]
    · rw [List.getElem?_set_ne hij]
  have hrun : ∀ w, (execOp (ev N f) ⟨od, .call ⟨.value (.func k), #[x], ats⟩, ty, pos, af, .none⟩).run P w = .ok (.enter k #[v]) w := by
    intro w
    have e1 : (execOp (ev N f) ⟨od, .call ⟨.value (.func k), #[x], ats⟩, ty, pos, af, .none⟩) = callFunc k (#[] ++ #[x].map (ev N f) ++ #[]) := rfl
    have e : (#[] ++ #[x].map (ev N f) ++ #[]) = #[v] := by simp [hx]
    rw [e1, e]; exact C.enter _ _
  rcases (show RowOk w H v T 1 xs.length from S.ents _ (List.mem_of_getElem? hi)) with ⟨rfl, hn⟩ | ⟨g, cap, cur, rfl, hc, hnc, hcm, hcs, hH⟩
  · refine WL.enterw (w' := w) (hrun w) (Calls.mono (C.none _ _ _) fun e w' ⟨he, hw'⟩ => ⟨_, he, ?_⟩)
    subst hw'
    have hxs : xs = [] := List.length_eq_zero_iff.1 hn
    subst hxs
    refine K _ H S.post.le ?_ (by rw [hset]; exact S)
    simpa [sortS] using hR
  · have hrow := holds_row S.holds hc hR
    have hg : g < w.heap.size := (Array.getElem?_eq_some_iff.1 hc).1
    refine WL.enterw (w' := w) (hrun w) (Calls.mono (C.some g 0 cap xs w hrow hg (by simp only [big] at hbig; omega)) fun e w' ⟨he, n, os, hw'⟩ => ⟨_, he, ?_⟩)
    have hd : (sortS xs).toArray.size = xs.length := by simp [sortS_len]
    obtain ⟨cur', hg', hsz', htk⟩ := putRow_at (w := Sort.ahead w n) (g := g) (d := (sortS xs).toArray) hc (by rw [hd]; omega)
    have hsz2 : w'.heap.size = w.heap.size + os.size := by rw [hw']; simp
    have hgrow : ∀ k, k < w.heap.size → w'.heap[k]? = (Sort.putRow Proofs.encStr (Sort.ahead w n) g 0 (sortS xs).toArray).heap[k]? := by
      intro k hk
      rw [hw']
      show (_ ++ os)[k]? = _
      rw [Array.getElem?_append_left (by simpa using hk)]
      rfl
    obtain ⟨H', hle, hH', S'⟩ := S.turnRow hw hi (w' := w') (n' := xs.length) (cur' := cur') (fun k hk hlt => by rw [hgrow k hlt, putRow_oth hk]; rfl) (by omega) (by rw [hw']; exact ⟨rfl, rfl, rfl⟩) (by rw [hgrow g hg]; exact hg') (by rw [hsz', hcs]) hnc hcm
    refine K w' H' hle ?_ (by rw [sortS_len]; exact S')
    refine ⟨some ⟨g, 0, none⟩, cap, by rw [sortS_len], by rw [sortS_len]; exact hnc, hcm, ?_⟩
    refine .inr ⟨g, 0, (sortS xs).map str, rfl, ⟨T, _, rfl, hH', [], ?_⟩, strs_Cells⟩
    rw [hd] at htk
    rw [List.drop_zero, Nat.mul_one, htk, List.append_nil]
/-- slices.Compact at []string. -/
structure CompactCon (P : Program) (k : FuncId) : Prop where
  enter : ∀ (args : Array Value) (w : World), (callFunc k args).run P w = .ok (.enter k args) w
  none : ∀ (a : Option Addr) (cap : Nat) (w : World), Calls P k #[.slice a 0 cap] w fun e w' => e = .returned (.slice a 0 cap) ∧ w' = w
  some : ∀ (blk off cap : Nat) (zs : List Str) (w : World), Sort.Holds Proofs.encStr w blk off zs.toArray → zs.length ≤ 9223372036854775807 → zs.length ≤ cap →
    Calls P k #[.slice (some ⟨blk, off, .none⟩) zs.length cap] w fun e w' => e = .returned (.slice (some ⟨blk, off, .none⟩) (Lib.compact zs).length cap) ∧ ∃ q, w' = Sort.putRow Proofs.encStr (Sort.ahead w q) blk off (Lib.compact zs ++ List.replicate (zs.length - (Lib.compact zs).length) []).toArray
theorem compact_len (l : List Str) : (Lib.compact l).length ≤ l.length := by
  unfold Lib.compact Lib.compactUpTo
  rw [List.length_map]
  exact Nat.le_trans (List.length_filter_le _ _) (by simp)
theorem W.compactRow {k : FuncId} {x : Operand} {ats : Array TypeId} {v : Value} {xs ys : List Str} {i : Nat} {T : TypeId} (C : CompactCon P k) (hw : Holds w0 H0) (S : St w0 H0 w H L) (hi : L[i]? = some (.row v T 1 xs.length)) (hx : ev N f x = v) (hR : Sl H v xs)
    (h : slices_Compact_string xs = some ys)
    (K : ∀ v' w' H', H0.le H' → Sl H' v' ys → St w0 H0 w' H' (L.set i (.row v' T 1 ys.length)) → WL P N ops rest Q (updo f od v') w') : WL P N ops (⟨od, .call ⟨.value (.func k), #[x], ats⟩, ty, pos, af, none⟩ :: rest) Q f w := by
  obtain rfl : Lib.compact xs = ys := by unfold slices_Compact_string at h; exact Option.some.inj h
  have hrun : ∀ w, (execOp (ev N f) ⟨od, .call ⟨.value (.func k), #[x], ats⟩, ty, pos, af, .none⟩).run P w = .ok (.enter k #[v]) w := by
    intro w
    have e1 : (execOp (ev N f) ⟨od, .call ⟨.value (.func k), #[x], ats⟩, ty, pos, af, .none⟩) = callFunc k (#[] ++ #[x].map (ev N f) ++ #[]) := rfl
    have e : (#[] ++ #[x].map (ev N f) ++ #[]) = #[v] := by simp [hx]
    rw [e1, e]; exact C.enter _ _
  rcases (show RowOk w H v T 1 xs.length from S.ents _ (List.mem_of_getElem? hi)) with ⟨rfl, hn⟩ | ⟨g, cap, cur, rfl, hc, hnc, hcm, hcs, hH⟩
  · refine WL.enterw (w' := w) (hrun w) (Calls.mono (C.none _ _ _) fun e w' ⟨he, hw'⟩ => ⟨_, he, ?_⟩)
    subst hw'
    have hxs : xs = [] := List.length_eq_zero_iff.1 hn
    subst hxs
    have hz : Lib.compact ([] : List Str) = [] := rfl
    have hset : L.set i (.row (.slice none 0 0) T 1 (Lib.compact ([] : List Str)).length) = L := by
      apply List.ext_getElem?
      intro j
      by_cases hij : i = j
      · subst hij; rw [List.getElem?_set_self (List.getElem?_eq_some_iff.1 hi).1, hi]; rfl
      · rw [List.getElem?_set_ne hij]
    exact K _ _ H S.post.le (by rw [hz]; exact hR) (by rw [hset]; exact S)
  · have hrow := holds_row S.holds hc hR
    have hg : g < w.heap.size := (Array.getElem?_eq_some_iff.1 hc).1
    refine WL.enterw (w' := w) (hrun w) (Calls.mono (C.some g 0 cap xs w hrow (by simp only [maxLen] at hcm; omega) hnc) fun e w' ⟨he, n, hw'⟩ => ⟨_, he, ?_⟩)
    have hcl := compact_len xs
    have hd : (Lib.compact xs ++ List.replicate (xs.length - (Lib.compact xs).length) ([] : Str)).toArray.size = xs.length := by simp; omega
    obtain ⟨cur', hg', hsz', htk⟩ := putRow_at (w := Sort.ahead w n) (g := g) (d := (Lib.compact xs ++ List.replicate (xs.length - (Lib.compact xs).length) ([] : Str)).toArray) hc (by rw [hd]; omega)
    obtain ⟨H', hle, hH', S'⟩ := S.turnRow hw hi (w' := w') (n' := (Lib.compact xs).length) (cur' := cur') (fun k hk hlt => by rw [hw', putRow_oth hk]; rfl) (by rw [hw']; simp) (by rw [hw']; exact ⟨rfl, rfl, rfl⟩) (by rw [hw']; exact hg') (by rw [hsz', hcs]) (by omega) hcm
    refine K _ w' H' hle ?_ S'
    refine ⟨some ⟨g, 0, none⟩, cap, rfl, by omega, hcm, ?_⟩
    refine .inr ⟨g, 0, (Lib.compact xs).map str, rfl, ⟨T, _, rfl, hH', [], ?_⟩, strs_Cells⟩
    rw [hd] at htk
    have : cur'.toList.take (Lib.compact xs).length = (Lib.compact xs).map str := by
      have h2 := congrArg (List.take (Lib.compact xs).length) htk
      rw [List.take_take, Nat.min_eq_left hcl] at h2
      rw [h2]
      simp
    rw [List.drop_zero, Nat.mul_one, this, List.append_nil]
/-! slices cut in a region that draws and writes -/
section
variable {n : Nat} {listed : Array Bool}
theorem WA.subHi {α : Type} [Enc α] {T e : TypeId} {k : Nat} {x j : Operand} {v : Value} {xs ys : List α} {m : Int} (listed' : Array Bool) (hi' : ops[k]? = some ⟨some d, .slice T x none (some j) none, ty, pos, af, none⟩) (hs : Region.noSelect ops = true) (hf : Region.free .any ops listed k = true)
    (hr : (Region.ready .any ops listed).contains k = true) (hl : listed.setIfInBounds k true = listed') (hR : Sl H v xs) (hx : ev N f x = v) (hj : ev N f j = int m) (hE : Elem P T e (Enc.sz α)) (h : xsub xs 0 m = some ys)
    (K : ∀ v', Sl H v' ys → WA P N ops n listed' Q (upd f d v') w) : WA P N ops (n + 1) listed Q f w := by
  obtain ⟨a, c, rfl, h1, h2, h3⟩ := hR
  have hs2 := Sl.sub (⟨a, c, rfl, h1, h2, h3⟩) h
  refine WA.take listed' hi' hs hf hr hl (fun w => ?_) (K _ hs2)
  obtain ⟨ht, inf, z, hinf, _, hsize, _⟩ := hE
  unfold xsub at h
  split at h
  case isFalse => cases h
  rename_i h0
  have g1 : 0 ≤ m ∧ m ≤ (c : Int) := ⟨by omega, by omega⟩
  simp [execOp, Instr.sliceAt, Instr.slice, Instr.sliceBounds, Instr.sliceBound, asIntOf, hx, hj, int, run_underlying ht, g1, sizeOf, typeInfo, hinf]
theorem WA.sub {α : Type} [Enc α] {T e : TypeId} {k : Nat} {x i j : Operand} {v : Value} {xs ys : List α} {m1 m : Int} (listed' : Array Bool) (hi' : ops[k]? = some ⟨some d, .slice T x (some i) (some j) none, ty, pos, af, none⟩) (hs : Region.noSelect ops = true) (hf : Region.free .any ops listed k = true)
    (hr : (Region.ready .any ops listed).contains k = true) (hl : listed.setIfInBounds k true = listed') (hR : Sl H v xs) (hx : ev N f x = v) (hi : ev N f i = int m1) (hj : ev N f j = int m) (hE : Elem P T e (Enc.sz α)) (h : xsub xs m1 m = some ys)
    (K : ∀ v', Sl H v' ys → WA P N ops n listed' Q (upd f d v') w) : WA P N ops (n + 1) listed Q f w := by
  obtain ⟨a, c, rfl, h1, h2, h3⟩ := hR
  have hs2 := Sl.sub (⟨a, c, rfl, h1, h2, h3⟩) h
  refine WA.take listed' hi' hs hf hr hl (fun w => ?_) (K _ hs2)
  obtain ⟨ht, inf, z, hinf, _, hsize, _⟩ := hE
  unfold xsub at h
  split at h
  case isFalse => cases h
  rename_i h0
  have g1 : 0 ≤ m ∧ m ≤ (c : Int) := ⟨by omega, by omega⟩
  simp [execOp, Instr.sliceAt, Instr.slice, Instr.sliceBounds, Instr.sliceBound, asIntOf, hx, hi, hj, int, run_underlying ht, g1, h0.1, sizeOf, typeInfo, hinf, hsize]
  intro hc; omega
/-- Two operations may come next: each of them is gone through. -/
theorem WA.two {i j : Nat} {o o' : Oper} (l1 l2 : Array Bool) (hi : ops[i]? = some o) (hj : ops[j]? = some o') (hr : Region.ready .any ops listed = [i, j]) (h1 : listed.setIfInBounds i true = l1) (h2 : listed.setIfInBounds j true = l2)
    (k1 : WL P N ops [o] (fun f' w' => WA P N ops n l1 Q f' w') f w) (k2 : WL P N ops [o'] (fun f' w' => WA P N ops n l2 Q f' w') f w) : WA P N ops (n + 1) listed Q f w := by
  subst h1; subst h2
  refine wpAny_all hr (by simp) fun q hq => ?_
  have key : ∀ (q : Nat) (o : Oper), ops[q]? = some o → WL P N ops [o] (fun f' w' => WA P N ops n (listed.setIfInBounds q true) Q f' w') f w → wpOp P ops (fun e a w' => ∃ f', a = act N f' ∧ e = .normal ∧ Q f' w') q (wpAny P .any ops (fun e a w' => ∃ f', a = act N f' ∧ e = .normal ∧ Q f' w') n (listed.setIfInBounds q true)) (act N f) w := by
    intro q o hq h
    unfold wpOp
    rw [hq]
    have h' : wpList P ops (fun e a w' => ∃ f', a = act N f' ∧ e = .normal ∧ WA P N ops n (listed.setIfInBounds q true) Q f' w') [o] (act N f) w := h.out
    unfold wpList at h'
    show if Region.wanted o (yielded ops (act N f).tmps) = true then _ else _
    split
    · rename_i hw
      rw [if_pos hw] at h'
      rcases h' with h' | ⟨_, a0, w0, f0, _, he, _⟩
      · refine .inl (Oper.wp_monoQ (fun a w hk => ?_) (fun e a w hne ⟨f', ha, he, _⟩ => absurd he hne) h')
        obtain ⟨f', ha, _, hq⟩ := hk
        subst ha; exact hq
      · cases he
    · rename_i hw
      rw [if_neg hw] at h'
      obtain ⟨f', ha, _, hq⟩ := h'
      rw [ha]; exact hq
  rcases List.mem_cons.1 hq with rfl | hq
  · exact key _ _ hi k1
  · rcases List.mem_singleton.1 hq with rfl
    exact key _ _ hj k2
end
end
end Go.Eng
