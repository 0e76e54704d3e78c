/- A part of the proof of laws of the seat. -/
import Derived.Test.YtogfdiigokidaaaGreatDoorEng14
import Derived.Sort.Grow
import Derived.Sort.EncStr
import Derived.Lib.SlicesCompact
import Derived.Lib.LaidTab
import Derived.Lib.ItoaNum
import Derived.Deep.AppendSrc
import Derived.Deep.Upon
import Derived.Lib.UnsafeStr
import Derived.Lib.Builder
import Derived.Laws.Externs
import Derived.Laws.Pointers
import Derived.WideLaws
import Derived.Laws.Entries
import Derived.Lib.Bytealg
/- The engine, part 15: a row of one's own is turned in place: sorted, made compact; slices cut in a region that draws and writes. -/
namespace Go.Eng
open Go Go.RowKit
section
variable {P : Program} {N : Frm} {f : Fr} {w w' w0 : World} {H0 H : Hp} {L : List Ent} {ops : Array Oper} {rest : List Oper} {Q : Fr → World → Prop} {d : Nat} {od : Option Nat} {ty : TypeId} {pos : String} {af : Array Edge}
/-- A row of the call's own is written anew, as a whole. -/
theorem St.turnRow (S : St w0 H0 w H L) (hw : Holds w0 H0) {i g n n' cap sz : Nat} {T : TypeId} {cur' : Array Value}
    (hi : L[i]? = some (.row (.slice (some ⟨g, 0, none⟩) n cap) T sz n)) (hoth : ∀ k, k ≠ g → k < w.heap.size → w'.heap[k]? = w.heap[k]?) (hsz : w.heap.size ≤ w'.heap.size)
    (hos : w'.os = w.os ∧ w'.tape = w.tape ∧ w'.output = w.output) (hg : w'.heap[g]? = some (.cells cur' T (0, 0))) (hc : cur'.size = cap * sz) (hn : n' ≤ cap) (hcap : cap ≤ maxLen) :
    ∃ H', H0.le H' ∧ H' g = some (T, cur'.toList.take (n' * sz)) ∧ St w0 H0 w' H' (L.set i (.row (.slice (some ⟨g, 0, none⟩) n' cap) T sz n')) := by
  have hmem := List.mem_of_getElem? hi
  have hown : w0.heap.size ≤ g := S.own _ hmem g rfl
  have hgl : g < w.heap.size := S.lt (List.mem_filterMap.2 ⟨_, hmem, rfl⟩)
  have h0g : H0 g = none := hw.none_of_size hown
  have hle : H0.le (fun k => if k = g then some (T, cur'.toList.take (n' * sz)) else H k) := by
    intro k T' l hk
    by_cases h : k = g
    · subst h; rw [h0g] at hk; cases hk
    · obtain ⟨l', hl'⟩ := S.post.le k T' l hk
      exact ⟨l', by simp only [if_neg h]; exact hl'⟩
  refine ⟨fun k => if k = g then some (T, cur'.toList.take (n' * sz)) else H k, hle, by simp, ?_⟩
  refine ⟨⟨S.post.below.trans ⟨hos.1, hos.2.1, hos.2.2, hsz, fun k hk => hoth k (by omega) (by have := S.post.below.size; omega)⟩, hle, fun k hk => ?_, ?_⟩, ?_, ?_, ?_⟩
  · show (if k = g then _ else H k) = H0 k
    rw [if_neg (by omega)]; exact S.post.eqb k hk
  · intro k T' l hk
    by_cases h : k = g
    · subst h
      simp at hk
      obtain ⟨rfl, rfl⟩ := hk
      exact ⟨cur', (0, 0), hg, cur'.toList.drop (n' * sz), (List.take_append_drop _ _).symm⟩
    · simp only [if_neg h] at hk
      obtain ⟨cs, fz, hc', hr⟩ := S.holds k T' l hk
      exact ⟨cs, fz, by rw [hoth k h (Array.getElem?_eq_some_iff.1 hc').1]; exact hc', hr⟩
  · intro e he
    obtain ⟨j, hj⟩ := List.mem_iff_getElem?.1 he
    by_cases hij : i = j
    · subst hij
      have hlt := (List.getElem?_eq_some_iff.1 hi).1
      rw [List.getElem?_set_self hlt] at hj
      simp at hj; subst hj
      exact .inr ⟨g, cap, cur', rfl, hg, hn, hcap, hc, by simp⟩
    · rw [List.getElem?_set_ne hij] at hj
      refine Ent.ok_keep (S.ents e (List.mem_of_getElem? hj)) fun k hk => ?_
      have hne : k ≠ g := S.blk_ne hj hi hk rfl (Ne.symm hij)
      exact ⟨hoth k hne (Ent.ok_lt (S.ents e (List.mem_of_getElem? hj)) hk), if_neg hne⟩
  · intro e he k hk
    obtain ⟨j, hj⟩ := List.mem_iff_getElem?.1 he
    by_cases hij : i = j
    · subst hij
      have hlt := (List.getElem?_eq_some_iff.1 hi).1
      rw [List.getElem?_set_self hlt] at hj
      simp at hj; subst hj
      simp [Ent.blk, Value.ownBlock] at hk; omega
    · rw [List.getElem?_set_ne hij] at hj
      exact S.own e (List.mem_of_getElem? hj) k hk
  · rw [filterMap_set (e' := .row (.slice (some ⟨g, 0, none⟩) n' cap) T sz n') hi rfl]; exact S.nodup

theorem putRow_at {w : World} {g : Nat} {cur : Array Value} {T : TypeId} {fz : Nat × Nat} {d : Array Str} (h : w.heap[g]? = some (.cells cur T fz)) (hd : d.size ≤ cur.size) :
    ∃ cur', (Sort.putRow Proofs.encStr w g 0 d).heap[g]? = some (.cells cur' T fz) ∧ cur'.size = cur.size ∧ cur'.toList.take d.size = d.toList.map str := by
  refine ⟨Sort.putCells Proofs.encStr 0 d cur, ?_, by simp [Sort.putCells], ?_⟩
  · simp [Sort.putRow, Sort.mapBlock, Array.getElem?_modify, h, Sort.onCells]
  · apply List.ext_getElem?
    intro k
    by_cases hk : k < d.size
    · rw [List.getElem?_take_of_lt hk]
      have h2 : k < cur.size := by omega
      simp [Sort.putCells, hk, h2, str, Proofs.encStr]
    · rw [List.getElem?_eq_none (by simp; omega), List.getElem?_eq_none (by simp; omega)]
theorem putRow_oth {w : World} {g k : Nat} {d : Array Str} (h : k ≠ g) : (Sort.putRow Proofs.encStr w g 0 d).heap[k]? = w.heap[k]? := by
  simp [Sort.putRow, Sort.mapBlock, Array.getElem?_modify, Ne.symm h]
/-- The row's cells, as the shelf's contracts want them. -/
theorem holds_row {w : World} {H : Hp} {g : Nat} {cur : Array Value} {T : TypeId} {xs : List Str} {cap : Nat} (hw : Holds w H) (hg : w.heap[g]? = some (.cells cur T (0, 0))) (hR : Sl H (.slice (some ⟨g, 0, none⟩) xs.length cap) xs) :
    Sort.Holds Proofs.encStr w g 0 xs.toArray := by
  intro j hj
  have hj : j < xs.length := by simpa using hj
  obtain ⟨a, c, hv, _, _, h3⟩ := hR
  rcases h3 with h3 | ⟨b, off, cs, ha, hat, hC⟩
  · subst h3; simp at hj
  · subst ha
    simp only [Value.slice.injEq, Option.some.injEq, Addr.mk.injEq] at hv
    obtain ⟨⟨rfl, rfl, _⟩, _⟩ := hv
    have hcs := hC.strs
    have hget : cs[j]? = some (str xs[j]) := by rw [hcs]; simp [hj]
    refine ⟨?_, ?_⟩
    · have := hat.cell hw hget
      rw [Addr.add_lit, Nat.zero_add] at this
      rw [Nat.zero_add, this]
      simp [hj, str, Proofs.encStr]
    · simp [World.frozen?, hg]
/-- slices.Sort at []string. -/
structure SortCon (P : Program) (k : FuncId) : Prop where
  enter : ∀ (args : Array Value) (w : World), (callFunc k args).run P w = .ok (.enter k args) w
  none : ∀ (p : Option Addr) (cap : Nat) (w : World), Calls P k #[.slice p 0 cap] w fun e w' => e = .returned (.tuple #[]) ∧ w' = w
  some : ∀ (blk off cap : Nat) (ss : List Str) (w : World), Sort.Holds Proofs.encStr w blk off ss.toArray → blk < w.heap.size → ss.length < 4611686018427387904 →
    Calls P k #[.slice (some ⟨blk, off, .none⟩) ss.length cap] w fun e w' => e = .returned (.tuple #[]) ∧ ∃ n os, w' = Sort.grow (Sort.putRow Proofs.encStr (Sort.ahead w n) blk off (ss.mergeSort fun x y => decide (x ≤ y)).toArray) os
def sortS (l : List Str) : List Str := l.mergeSort fun x y => decide (x ≤ y)
theorem sortS_len (l : List Str) : (sortS l).length = l.length := List.length_mergeSort l
noncomputable def slices_Sort_string (l : List Str) : Option (List Str) := if l.length ≤ big then some (sortS l) else none
noncomputable def slices_Compact_string (l : List Str) : Option (List Str) := some (Lib.compact l)
theorem strs_Cells {H : Hp} : ∀ {xs : List Str}, Cells (α := Str) H (xs.map str) xs
  | [] => rfl
  | x :: xs => ⟨[str x], xs.map str, rfl, rfl, strs_Cells⟩
theorem W.sortRow {k : FuncId} {x : Operand} {ats : Array TypeId} {v : Value} {xs ys : List Str} {i : Nat} {T : TypeId} (C : SortCon P k) (hw : Holds w0 H0) (S : St w0 H0 w H L) (hi : L[i]? = some (.row v T 1 xs.length)) (hx : ev N f x = v) (hR : Sl H v xs)
    (h : slices_Sort_string xs = some ys)
    (K : ∀ w' H', H0.le H' → Sl H' v ys → St w0 H0 w' H' (L.set i (.row v T 1 ys.length)) → WL P N ops rest Q (updo f od (.tuple #[])) w') : WL P N ops (⟨od, .call ⟨.value (.func k), #[x], ats⟩, ty, pos, af, none⟩ :: rest) Q f w := by
  have hbig : xs.length ≤ big := by
    unfold slices_Sort_string at h
    split at h
    · assumption
    · cases h
  obtain rfl : sortS xs = ys := by
    unfold slices_Sort_string at h
    rw [if_pos hbig] at h
    exact Option.some.inj h
  have hset : L.set i (.row v T 1 (sortS xs).length) = L := by
    rw [sortS_len]
    apply List.ext_getElem?
    intro j
    by_cases hij : i = j
    · subst hij; rw [List.getElem?_set_self (List.getElem?_eq_some_iff.1 hi).1, hi]
    · rw [List.getElem?_set_ne hij]
  have hrun : ∀ w, (execOp (ev N f) ⟨od, .call ⟨.value (.func k), #[x], ats⟩, ty, pos, af, .none⟩).run P w = .ok (.enter k #[v]) w := by
    intro w
    have e1 : (execOp (ev N f) ⟨od, .call ⟨.value (.func k), #[x], ats⟩, ty, pos, af, .none⟩) = callFunc k (#[] ++ #[x].map (ev N f) ++ #[]) := rfl
    have e : (#[] ++ #[x].map (ev N f) ++ #[]) = #[v] := by simp [hx]
    rw [e1, e]; exact C.enter _ _
  rcases (show RowOk w H v T 1 xs.length from S.ents _ (List.mem_of_getElem? hi)) with ⟨rfl, hn⟩ | ⟨g, cap, cur, rfl, hc, hnc, hcm, hcs, hH⟩
  · refine WL.enterw (w' := w) (hrun w) (Calls.mono (C.none _ _ _) fun e w' ⟨he, hw'⟩ => ⟨_, he, ?_⟩)
    subst hw'
    have hxs : xs = [] := List.length_eq_zero_iff.1 hn
    subst hxs
    refine K _ H S.post.le ?_ (by rw [hset]; exact S)
    simpa [sortS] using hR
  · have hrow := holds_row S.holds hc hR
    have hg : g < w.heap.size := (Array.getElem?_eq_some_iff.1 hc).1
    refine WL.enterw (w' := w) (hrun w) (Calls.mono (C.some g 0 cap xs w hrow hg (by simp only [big] at hbig; omega)) fun e w' ⟨he, n, os, hw'⟩ => ⟨_, he, ?_⟩)
    have hd : (sortS xs).toArray.size = xs.length := by simp [sortS_len]
    obtain ⟨cur', hg', hsz', htk⟩ := putRow_at (w := Sort.ahead w n) (g := g) (d := (sortS xs).toArray) hc (by rw [hd]; omega)
    have hsz2 : w'.heap.size = w.heap.size + os.size := by rw [hw']; simp
    have hgrow : ∀ k, k < w.heap.size → w'.heap[k]? = (Sort.putRow Proofs.encStr (Sort.ahead w n) g 0 (sortS xs).toArray).heap[k]? := by
      intro k hk
      rw [hw']
      show (_ ++ os)[k]? = _
      rw [Array.getElem?_append_left (by simpa using hk)]
      rfl
    obtain ⟨H', hle, hH', S'⟩ := S.turnRow hw hi (w' := w') (n' := xs.length) (cur' := cur') (fun k hk hlt => by rw [hgrow k hlt, putRow_oth hk]; rfl) (by omega) (by rw [hw']; exact ⟨rfl, rfl, rfl⟩) (by rw [hgrow g hg]; exact hg') (by rw [hsz', hcs]) hnc hcm
    refine K w' H' hle ?_ (by rw [sortS_len]; exact S')
    refine ⟨some ⟨g, 0, none⟩, cap, by rw [sortS_len], by rw [sortS_len]; exact hnc, hcm, ?_⟩
    refine .inr ⟨g, 0, (sortS xs).map str, rfl, ⟨T, _, rfl, hH', [], ?_⟩, strs_Cells⟩
    rw [hd] at htk
    rw [List.drop_zero, Nat.mul_one, htk, List.append_nil]
/-- slices.Compact at []string. -/
structure CompactCon (P : Program) (k : FuncId) : Prop where
  enter : ∀ (args : Array Value) (w : World), (callFunc k args).run P w = .ok (.enter k args) w
  none : ∀ (a : Option Addr) (cap : Nat) (w : World), Calls P k #[.slice a 0 cap] w fun e w' => e = .returned (.slice a 0 cap) ∧ w' = w
  some : ∀ (blk off cap : Nat) (zs : List Str) (w : World), Sort.Holds Proofs.encStr w blk off zs.toArray → zs.length ≤ 9223372036854775807 → zs.length ≤ cap →
    Calls P k #[.slice (some ⟨blk, off, .none⟩) zs.length cap] w fun e w' => e = .returned (.slice (some ⟨blk, off, .none⟩) (Lib.compact zs).length cap) ∧ ∃ q, w' = Sort.putRow Proofs.encStr (Sort.ahead w q) blk off (Lib.compact zs ++ List.replicate (zs.length - (Lib.compact zs).length) []).toArray
theorem compact_len (l : List Str) : (Lib.compact l).length ≤ l.length := by
  unfold Lib.compact Lib.compactUpTo
  rw [List.length_map]
  exact Nat.le_trans (List.length_filter_le _ _) (by simp)
theorem W.compactRow {k : FuncId} {x : Operand} {ats : Array TypeId} {v : Value} {xs ys : List Str} {i : Nat} {T : TypeId} (C : CompactCon P k) (hw : Holds w0 H0) (S : St w0 H0 w H L) (hi : L[i]? = some (.row v T 1 xs.length)) (hx : ev N f x = v) (hR : Sl H v xs)
    (h : slices_Compact_string xs = some ys)
    (K : ∀ v' w' H', H0.le H' → Sl H' v' ys → St w0 H0 w' H' (L.set i (.row v' T 1 ys.length)) → WL P N ops rest Q (updo f od v') w') : WL P N ops (⟨od, .call ⟨.value (.func k), #[x], ats⟩, ty, pos, af, none⟩ :: rest) Q f w := by
  obtain rfl : Lib.compact xs = ys := by unfold slices_Compact_string at h; exact Option.some.inj h
  have hrun : ∀ w, (execOp (ev N f) ⟨od, .call ⟨.value (.func k), #[x], ats⟩, ty, pos, af, .none⟩).run P w = .ok (.enter k #[v]) w := by
    intro w
    have e1 : (execOp (ev N f) ⟨od, .call ⟨.value (.func k), #[x], ats⟩, ty, pos, af, .none⟩) = callFunc k (#[] ++ #[x].map (ev N f) ++ #[]) := rfl
    have e : (#[] ++ #[x].map (ev N f) ++ #[]) = #[v] := by simp [hx]
    rw [e1, e]; exact C.enter _ _
  rcases (show RowOk w H v T 1 xs.length from S.ents _ (List.mem_of_getElem? hi)) with ⟨rfl, hn⟩ | ⟨g, cap, cur, rfl, hc, hnc, hcm, hcs, hH⟩
  · refine WL.enterw (w' := w) (hrun w) (Calls.mono (C.none _ _ _) fun e w' ⟨he, hw'⟩ => ⟨_, he, ?_⟩)
    subst hw'
    have hxs : xs = [] := List.length_eq_zero_iff.1 hn
    subst hxs
    have hz : Lib.compact ([] : List Str) = [] := rfl
    have hset : L.set i (.row (.slice none 0 0) T 1 (Lib.compact ([] : List Str)).length) = L := by
      apply List.ext_getElem?
      intro j
      by_cases hij : i = j
      · subst hij; rw [List.getElem?_set_self (List.getElem?_eq_some_iff.1 hi).1, hi]; rfl
      · rw [List.getElem?_set_ne hij]
    exact K _ _ H S.post.le (by rw [hz]; exact hR) (by rw [hset]; exact S)
  · have hrow := holds_row S.holds hc hR
    have hg : g < w.heap.size := (Array.getElem?_eq_some_iff.1 hc).1
    refine WL.enterw (w' := w) (hrun w) (Calls.mono (C.some g 0 cap xs w hrow (by simp only [maxLen] at hcm; omega) hnc) fun e w' ⟨he, n, hw'⟩ => ⟨_, he, ?_⟩)
    have hcl := compact_len xs
    have hd : (Lib.compact xs ++ List.replicate (xs.length - (Lib.compact xs).length) ([] : Str)).toArray.size = xs.length := by simp; omega
    obtain ⟨cur', hg', hsz', htk⟩ := putRow_at (w := Sort.ahead w n) (g := g) (d := (Lib.compact xs ++ List.replicate (xs.length - (Lib.compact xs).length) ([] : Str)).toArray) hc (by rw [hd]; omega)
    obtain ⟨H', hle, hH', S'⟩ := S.turnRow hw hi (w' := w') (n' := (Lib.compact xs).length) (cur' := cur') (fun k hk hlt => by rw [hw', putRow_oth hk]; rfl) (by rw [hw']; simp) (by rw [hw']; exact ⟨rfl, rfl, rfl⟩) (by rw [hw']; exact hg') (by rw [hsz', hcs]) (by omega) hcm
    refine K _ w' H' hle ?_ S'
    refine ⟨some ⟨g, 0, none⟩, cap, rfl, by omega, hcm, ?_⟩
    refine .inr ⟨g, 0, (Lib.compact xs).map str, rfl, ⟨T, _, rfl, hH', [], ?_⟩, strs_Cells⟩
    rw [hd] at htk
    have : cur'.toList.take (Lib.compact xs).length = (Lib.compact xs).map str := by
      have h2 := congrArg (List.take (Lib.compact xs).length) htk
      rw [List.take_take, Nat.min_eq_left hcl] at h2
      rw [h2]
      simp
    rw [List.drop_zero, Nat.mul_one, this, List.append_nil]
/-! slices cut in a region that draws and writes -/
section
variable {n : Nat} {listed : Array Bool}
theorem WA.subLo {α : Type} [Enc α] {T e : TypeId} {k : Nat} {x i : Operand} {v : Value} {xs ys : List α} {m : Int} (listed' : Array Bool) (hi' : ops[k]? = some ⟨some d, .slice T x (some i) none none, ty, pos, af, none⟩) (hs : Region.noSelect ops = true) (hf : Region.free .any ops listed k = true)
    (hr : (Region.ready .any ops listed).contains k = true) (hl : listed.setIfInBounds k true = listed') (hR : Sl H v xs) (hx : ev N f x = v) (hi : ev N f i = int m) (hE : Elem P T e (Enc.sz α)) (h : xsub xs m xs.length = some ys)
    (K : ∀ v', Sl H v' ys → WA P N ops n listed' Q (upd f d v') w) : WA P N ops (n + 1) listed Q f w := by
  obtain ⟨a, c, rfl, h1, h2, h3⟩ := hR
  have hs2 := Sl.sub (⟨a, c, rfl, h1, h2, h3⟩) h
  refine WA.take listed' hi' hs hf hr hl (fun w => ?_) (K _ hs2)
  obtain ⟨ht, inf, z, hinf, _, hsize, _⟩ := hE
  unfold xsub at h
  split at h
  case isFalse => cases h
  rename_i h0
  simp [execOp, Instr.sliceAt, Instr.slice, Instr.sliceBounds, Instr.sliceBound, asIntOf, hx, hi, int, run_underlying ht, h0.1, h0.2.1, sizeOf, typeInfo, hinf, hsize]
theorem WA.subHi {α : Type} [Enc α] {T e : TypeId} {k : Nat} {x j : Operand} {v : Value} {xs ys : List α} {m : Int} (listed' : Array Bool) (hi' : ops[k]? = some ⟨some d, .slice T x none (some j) none, ty, pos, af, none⟩) (hs : Region.noSelect ops = true) (hf : Region.free .any ops listed k = true)
    (hr : (Region.ready .any ops listed).contains k = true) (hl : listed.setIfInBounds k true = listed') (hR : Sl H v xs) (hx : ev N f x = v) (hj : ev N f j = int m) (hE : Elem P T e (Enc.sz α)) (h : xsub xs 0 m = some ys)
    (K : ∀ v', Sl H v' ys → WA P N ops n listed' Q (upd f d v') w) : WA P N ops (n + 1) listed Q f w := by
  obtain ⟨a, c, rfl, h1, h2, h3⟩ := hR
  have hs2 := Sl.sub (⟨a, c, rfl, h1, h2, h3⟩) h
  refine WA.take listed' hi' hs hf hr hl (fun w => ?_) (K _ hs2)
  obtain ⟨ht, inf, z, hinf, _, hsize, _⟩ := hE
  unfold xsub at h
  split at h
  case isFalse => cases h
  rename_i h0
  have g1 : 0 ≤ m ∧ m ≤ (c : Int) := ⟨by omega, by omega⟩
  simp [execOp, Instr.sliceAt, Instr.slice, Instr.sliceBounds, Instr.sliceBound, asIntOf, hx, hj, int, run_underlying ht, g1, sizeOf, typeInfo, hinf]
theorem WA.sub {α : Type} [Enc α] {T e : TypeId} {k : Nat} {x i j : Operand} {v : Value} {xs ys : List α} {m1 m : Int} (listed' : Array Bool) (hi' : ops[k]? = some ⟨some d, .slice T x (some i) (some j) none, ty, pos, af, none⟩) (hs : Region.noSelect ops = true) (hf : Region.free .any ops listed k = true)
    (hr : (Region.ready .any ops listed).contains k = true) (hl : listed.setIfInBounds k true = listed') (hR : Sl H v xs) (hx : ev N f x = v) (hi : ev N f i = int m1) (hj : ev N f j = int m) (hE : Elem P T e (Enc.sz α)) (h : xsub xs m1 m = some ys)
    (K : ∀ v', Sl H v' ys → WA P N ops n listed' Q (upd f d v') w) : WA P N ops (n + 1) listed Q f w := by
  obtain ⟨a, c, rfl, h1, h2, h3⟩ := hR
  have hs2 := Sl.sub (⟨a, c, rfl, h1, h2, h3⟩) h
  refine WA.take listed' hi' hs hf hr hl (fun w => ?_) (K _ hs2)
  obtain ⟨ht, inf, z, hinf, _, hsize, _⟩ := hE
  unfold xsub at h
  split at h
  case isFalse => cases h
  rename_i h0
  have g1 : 0 ≤ m ∧ m ≤ (c : Int) := ⟨by omega, by omega⟩
  simp [execOp, Instr.sliceAt, Instr.slice, Instr.sliceBounds, Instr.sliceBound, asIntOf, hx, hi, hj, int, run_underlying ht, g1, h0.1, sizeOf, typeInfo, hinf, hsize]
  intro hc; omega
/-- Two operations may come next: each of them is gone through. -/
theorem WA.two {i j : Nat} {o o' : Oper} (l1 l2 : Array Bool) (hi : ops[i]? = some o) (hj : ops[j]? = some o') (hr : Region.ready .any ops listed = [i, j]) (h1 : listed.setIfInBounds i true = l1) (h2 : listed.setIfInBounds j true = l2)
    (k1 : WL P N ops [o] (fun f' w' => WA P N ops n l1 Q f' w') f w) (k2 : WL P N ops [o'] (fun f' w' => WA P N ops n l2 Q f' w') f w) : WA P N ops (n + 1) listed Q f w := by
  subst h1; subst h2
  refine wpAny_all hr (by simp) fun q hq => ?_
  have key : ∀ (q : Nat) (o : Oper), ops[q]? = some o → WL P N ops [o] (fun f' w' => WA P N ops n (listed.setIfInBounds q true) Q f' w') f w → wpOp P ops (fun e a w' => ∃ f', a = act N f' ∧ e = .normal ∧ Q f' w') q (wpAny P .any ops (fun e a w' => ∃ f', a = act N f' ∧ e = .normal ∧ Q f' w') n (listed.setIfInBounds q true)) (act N f) w := by
    intro q o hq h
    unfold wpOp
    rw [hq]
    have h' : wpList P ops (fun e a w' => ∃ f', a = act N f' ∧ e = .normal ∧ WA P N ops n (listed.setIfInBounds q true) Q f' w') [o] (act N f) w := h.out
    unfold wpList at h'
    show if Region.wanted o (yielded ops (act N f).tmps) = true then _ else _
    split
    · rename_i hw
      rw [if_pos hw] at h'
      rcases h' with h' | ⟨_, a0, w0, f0, _, he, _⟩
      · refine .inl (Oper.wp_monoQ (fun a w hk => ?_) (fun e a w hne ⟨f', ha, he, _⟩ => absurd he hne) h')
        obtain ⟨f', ha, _, hq⟩ := hk
        subst ha; exact hq
      · cases he
    · rename_i hw
      rw [if_neg hw] at h'
      obtain ⟨f', ha, _, hq⟩ := h'
      rw [ha]; exact hq
  rcases List.mem_cons.1 hq with rfl | hq
  · exact key _ _ hi k1
  · rcases List.mem_singleton.1 hq with rfl
    exact key _ _ hj k2
end
end
end Go.Eng

/- The engine, part 16: numbers written in decimal; what lies laid in the world. -/
namespace Go.Eng
open Go Go.RowKit
/-- An int in decimal. -/
def strconv_Itoa (n : Int) : Option Str := if -9223372036854775808 ≤ n ∧ n ≤ 9223372036854775807 then some (Lib.itoa n) else none
theorem below_grow' (w : World) (k : Nat) (os : Array Obj) : Below w.heap.size w (Sort.grow (w.drewN k) os) :=
  ⟨rfl, rfl, rfl, by show w.heap.size ≤ (w.heap ++ os).size; rw [Array.size_append]; omega, fun j hj => by
    show (w.heap ++ os)[j]? = w.heap[j]?
    rw [Array.getElem?_append_left hj]⟩
theorem itoaCon {P : Program} {k : FuncId} {fn : Func} {c : Code} {w : World} {H : Hp} {n : Int} {r : Str} (hf : P.funcs[k]? = some fn) (hb : fn.body = some c) (hname : (fn.name == "runtime.NumGoroutine") = false) (hw : Holds w H)
    (htab : Lib.TabIs P w "internal/strconv.uint64pow10" .u64 Lib.pow10Tab) (h : strconv_Itoa n = some r)
    (hc : ∀ (n : Int), -9223372036854775808 ≤ n → n ≤ 9223372036854775807 → ∀ (w : World), Lib.TabIs P w "internal/strconv.uint64pow10" .u64 Lib.pow10Tab →
      Calls P k #[.int .i64 n] w fun e w' => e = .returned (.string ⟨(Lib.itoa n).toArray⟩) ∧ ∃ k os, w' = Sort.grow (w.drewN k) os) :
    Con P k [int n] w H (fun _ u => u = str r) := by
  unfold strconv_Itoa at h
  split at h
  case isFalse => cases h
  rename_i h0
  simp only [Option.some.injEq] at h
  subst h
  refine Con.of_calls hf hb hname hw (Calls.mono (hc n h0.1 h0.2 w htab) fun _ _ ⟨he, q, os, hp⟩ => ⟨he, ?_⟩)
  subst hp
  exact below_grow' w q os
/-- What a variable of the program's own reads stays as it is, in a call. -/
theorem var_stays {P : Program} {w w' : World} {g : Nat} {n : String} {cs : Array Value} {B : Nat} (hg : P.globalNamed n = some g) (h : w.var? P n = some cs) (hb : Below B w w') (hB : g < B) : w'.var? P n = some cs := by
  unfold World.var? at *
  rw [hg] at h ⊢
  simp only [Option.bind_some] at h ⊢
  rw [hb.block g hB]; exact h
theorem var_lt {P : Program} {w : World} {g : Nat} {n : String} {cs : Array Value} (hg : P.globalNamed n = some g) (h : w.var? P n = some cs) : g < w.heap.size := by
  unfold World.var? at h
  rw [hg] at h
  simp only [Option.bind_some] at h
  cases hh : w.heap[g]? with
  | none => rw [hh] at h; cases h
  | some o => exact (Array.getElem?_eq_some_iff.1 hh).1
theorem tab_post {P : Program} {w0 w : World} {H0 H : Hp} {g : Nat} {n : String} {k : IntKind} {zs : List Int} (hg : P.globalNamed n = some g) (h : Lib.TabIs P w0 n k zs) (p : Post w0 H0 w H) : Lib.TabIs P w n k zs :=
  var_stays hg h p.below (var_lt hg h)
/-- From the row's condition to a variable's cells: whichever stands on the list. -/
theorem tabIs_of_mem {P : Program} {W : World} {name : String} {k : IntKind} {zs : List Int} {l : List (String × DataW Unit)} {g : Nat} {t e : TypeId} {n : Nat} (hm : (name, Lib.tabData k zs) ∈ l)
    (hg : P.globalNamed name = some g) (hty : (P.globals[g]?).map (·.type) = some t) (ht : P.underlying t = some (.array n e)) (he : P.underlying e = some (.int k)) (hce : P.cellsOf e = 1) (hct : P.cellsOf t = n)
    (h : laidMet P l W) : Lib.TabIs P W name k zs := by
  obtain ⟨ps, hl, _⟩ := h
  have key : ∀ (l : List (String × DataW Unit)) (ps : List MemPlace), (name, Lib.tabData k zs) ∈ l → DataW.LaidVars P W l ps → ∃ ps', DataW.LaidVars P W [(name, Lib.tabData k zs)] ps' := by
    intro l
    induction l with
    | nil => intro ps hm; cases hm
    | cons x l ih =>
      intro ps hm hl
      obtain ⟨nm, d⟩ := x
      obtain ⟨g, t, cs, fuel, p, q, h1, h2, h3, h4, h5, rfl⟩ := hl
      rcases List.mem_cons.1 hm with hm | hm
      · cases hm
        exact ⟨_, g, t, cs, fuel, p, [], h1, h2, h3, h4, rfl, rfl⟩
      · exact ih q hm h5
  obtain ⟨ps', hl'⟩ := key l ps hm hl
  obtain ⟨g', t', cs, fuel, p, q, hg', ht', hvar, hd, _, _⟩ := hl'
  obtain rfl := Option.some.inj (hg.symm.trans hg')
  obtain rfl := Option.some.inj (hty.symm.trans ht')
  unfold Lib.TabIs
  rw [hvar, ← Lib.cells_of_tab ht he hce hct hd]
end Go.Eng

/- The engine, part 17: calls that write what the caller owns. -/
namespace Go.Eng
open Go Go.RowKit
/-- A call that may write what the caller has of its own: what else the caller has (L2) is kept. -/
def ConS (P : Program) (k : FuncId) (args : List Value) (w0 : World) (H0 : Hp) (w : World) (H : Hp) (L2 : List Ent) (R : Hp → Value → List Ent → Prop) : Prop :=
  (∀ w, (callFunc k args.toArray).run P w = .ok (.enter k args.toArray) w) ∧
  Calls P k args.toArray w (fun e w' => ∃ v H' L', e = .returned v ∧ H.le H' ∧ St w0 H0 w' H' (L' ++ L2) ∧ R H' v L')
/-- The end of such a function. -/
def OutS (P : Program) (fn : Func) (N : Frm) (w0 : World) (H0 H : Hp) (L2 : List Ent) (R : Hp → Value → List Ent → Prop) : Exit → Fr → World → Prop := fun e f w =>
  (e = .ret ∨ e = .normal) ∧ ∃ v, (results fn (tm N f)).run P w = .ok v w ∧ ∃ H' L', H.le H' ∧ St w0 H0 w H' (L' ++ L2) ∧ R H' v L'
section
variable {P : Program} {N : Frm} {f : Fr} {w w1 w0 : World} {H0 H1 H : Hp} {L L2 L' : List Ent} {ops : Array Oper} {rest : List Oper} {Q : Fr → World → Prop} {d : Nat} {od : Option Nat} {ty : TypeId} {pos : String} {af : Array Edge} {g : Option (Nat × Bool)}
theorem ConS.mk {N : Nat} {fn : Func} {c : Code} {k : FuncId} {args : List Value} {R : Hp → Value → List Ent → Prop} (hf : P.funcs[k]? = some fn) (hb : fn.body = some c) (hn : fn.ntmps = N) (hname : (fn.name == "runtime.NumGoroutine") = false)
    (hsz : Nat.ble args.length N = true) (h : WP P ⟨N, []⟩ c (OutS P fn ⟨N, []⟩ w0 H0 H L2 R) (init args) w) : ConS P k args w0 H0 w H L2 R := by
  refine ⟨fun w => ?_, ?_⟩
  · simp only [callFunc, Sem.run_bind, run_program, Result.andThen_ok, hf, hname, hb]
    rfl
  · refine calls_of_wp hf hb ?_
    have hle : args.length ≤ N := Nat.le_of_ble_eq_true hsz
    have e : ({ tmps := args.toArray ++ Array.replicate (fn.ntmps - args.toArray.size) undef, defers := [] } : Act) = act ⟨N, []⟩ (init args) := by
      simp only [act]
      congr 1
      apply Array.ext_getElem?
      intro t
      rw [tm_get, hn, Array.getElem?_append]
      simp only [List.size_toArray, List.getElem?_toArray, init, List.getD_eq_getElem?_getD]
      by_cases h1 : t < args.length
      · simp [h1, show t < N from by omega]
      · simp only [h1, if_false]
        rw [Array.getElem?_replicate]
        by_cases h2 : t < N
        · rw [if_pos (by omega), if_pos h2, List.getElem?_eq_none (by omega)]; rfl
        · rw [if_neg (by omega), if_neg h2]
    rw [e]
    refine Code.wp_mono (fun e a w' ⟨f', ha, he, v, hv, H', L', hle, hS, hr⟩ => ?_) h
    subst ha
    rcases he with rfl | rfl
    · exact ⟨rfl, v, hv, v, H', L', rfl, hle, hS, hr⟩
    · exact ⟨rfl, v, hv, v, H', L', rfl, hle, hS, hr⟩
/-- Such a call, of a function by its name. -/
theorem W.callS {k : FuncId} {xs : List Operand} {ats : Array TypeId} {args : List Value} {R : Hp → Value → List Ent → Prop} (ha : xs.map (ev N f) = args) (C : ConS P k args w0 H0 w H L2 R)
    (K : ∀ v w' H' L', H.le H' → St w0 H0 w' H' (L' ++ L2) → R H' v L' → WL P N ops rest Q (updo f od v) w') : WL P N ops (⟨od, .call ⟨.value (.func k), xs.toArray, ats⟩, ty, pos, af, none⟩ :: rest) Q f w := by
  refine WL.enterw (w' := w) (k := k) (args := args.toArray) ?_ (Calls.mono C.2 fun e w' ⟨v, H', L', he, hp, hS, hv⟩ => ⟨v, he, K v w' H' L' hp hS hv⟩)
  have : (execOp (ev N f) ⟨od, .call ⟨.value (.func k), xs.toArray, ats⟩, ty, pos, af, none⟩) = callFunc k (#[] ++ xs.toArray.map (ev N f) ++ #[]) := rfl
  rw [this]
  have e : (#[] ++ xs.toArray.map (ev N f) ++ #[]) = args.toArray := by simp [ha]
  rw [e]
  exact C.1 w
theorem run_results0 {fn : Func} (hr : fn.results = #[]) (tmps : Array Value) : (results fn tmps).run P w = .ok (.tuple #[]) w := by
  rw [results_eq, hr]
  simp only [List.mapM_toArray, List.mapM_nil, Sem.run_bind, Sem.run_map, Sem.run_pure, Result.andThen_ok]
  rfl
theorem OutS.zero {fn : Func} {R : Hp → Value → List Ent → Prop} {e : Exit} (he : e = .ret ∨ e = .normal) (hr : fn.results = #[]) (hle : H1.le H) (S : St w0 H0 w H (L' ++ L2)) (hR : R H (.tuple #[]) L') : OutS P fn N w0 H0 H1 L2 R e f w :=
  ⟨he, _, run_results0 hr _, H, L', hle, S, hR⟩
theorem OutS.one {fn : Func} {r : ResultVar} {v : Value} {R : Hp → Value → List Ent → Prop} (hr : fn.results = #[r]) (hle : H1.le H) (S : St w0 H0 w H (L' ++ L2)) (h : Res P N f w r v) (hR : R H v L') : OutS P fn N w0 H0 H1 L2 R .ret f w := by
  refine ⟨.inl rfl, v, ?_, H, L', hle, S, hR⟩
  have := run_resultVar h
  rw [results_eq, hr]
  simp only [List.mapM_toArray, List.mapM_cons, List.mapM_nil, Sem.run_bind, Sem.run_map, this, Result.andThen_ok, Sem.run_pure]
  rfl
theorem OutS.two {fn : Func} {r1 r2 : ResultVar} {v1 v2 : Value} {R : Hp → Value → List Ent → Prop} (hr : fn.results = #[r1, r2]) (hle : H1.le H) (S : St w0 H0 w H (L' ++ L2)) (h1 : Res P N f w r1 v1) (h2 : Res P N f w r2 v2) (hR : R H (.tuple ⟨[v1, v2]⟩) L') : OutS P fn N w0 H0 H1 L2 R .ret f w := by
  refine ⟨.inl rfl, _, ?_, H, L', hle, S, hR⟩
  have h1 := run_resultVar h1
  have h2 := run_resultVar h2
  rw [results_eq, hr]
  simp only [List.mapM_toArray, List.mapM_cons, List.mapM_nil, Sem.run_bind, Sem.run_map, h1, h2, Result.andThen_ok, Sem.run_pure]
  rfl
theorem OutS.three {fn : Func} {r1 r2 r3 : ResultVar} {v1 v2 v3 : Value} {R : Hp → Value → List Ent → Prop} (hr : fn.results = #[r1, r2, r3]) (hle : H1.le H) (S : St w0 H0 w H (L' ++ L2)) (h1 : Res P N f w r1 v1) (h2 : Res P N f w r2 v2) (h3 : Res P N f w r3 v3) (hR : R H (.tuple ⟨[v1, v2, v3]⟩) L') : OutS P fn N w0 H0 H1 L2 R .ret f w := by
  refine ⟨.inl rfl, _, ?_, H, L', hle, S, hR⟩
  have h1 := run_resultVar h1
  have h2 := run_resultVar h2
  have h3 := run_resultVar h3
  rw [results_eq, hr]
  simp only [List.mapM_toArray, List.mapM_cons, List.mapM_nil, Sem.run_bind, Sem.run_map, h1, h2, h3, Result.andThen_ok, Sem.run_pure]
  rfl
/-- A function that returns nothing: the plain contract. -/
theorem Out.zero {fn : Func} {R : Hp → Value → Prop} {e : Exit} (he : e = .ret ∨ e = .normal) (hr : fn.results = #[]) (S : St w0 H0 w H L) (hR : R H (.tuple #[])) : Out P fn N w0 H0 R e f w :=
  ⟨he, _, run_results0 hr _, H, S.post, hR⟩
/-- One of the things is put first. -/
theorem St.front (S : St w0 H0 w H L) (i : Nat) {e : Ent} (hi : L[i]? = some e) : St w0 H0 w H (e :: L.eraseIdx i) := by
  have hm := List.mem_of_getElem? hi
  refine ⟨S.post, ?_, ?_, ?_⟩
  · intro x hx
    rcases List.mem_cons.1 hx with rfl | hx
    · exact S.ents _ hm
    · exact S.ents _ ((List.eraseIdx_sublist _ _).subset hx)
  · intro x hx
    rcases List.mem_cons.1 hx with rfl | hx
    · exact S.own _ hm
    · exact S.own _ ((List.eraseIdx_sublist _ _).subset hx)
  · have hp : ∀ (L : List Ent) (i : Nat), L[i]? = some e → List.Perm (e :: L.eraseIdx i) L := by
      intro L
      induction L with
      | nil => intro i hi; simp at hi
      | cons x L ih =>
        intro i hi
        cases i with
        | zero => simp at hi; subst hi; simp
        | succ i =>
          simp at hi
          rw [List.eraseIdx_cons_succ]
          exact (List.Perm.swap x e _).trans ((ih i hi).cons x)
    exact ((hp L i hi).filterMap Ent.blk).nodup_iff.2 S.nodup
end
end Go.Eng

/- The engine, part 18: bits. -/
namespace Go.Eng
open Go
/-- '&' of ints. -/
def iand (a b : Int) : Int := IntKind.wrap .i64 ((BitVec.ofInt 64 a &&& BitVec.ofInt 64 b).toNat : Int)
section
variable {P : Program} {N : Frm} {f : Fr} {w : World} {d : Option Nat} {ty : TypeId} {pos : String} {af : Array Edge} {g : Option (Nat × Bool)}
theorem R.and {x y : Operand} {a b : Int} {T T' : TypeId} (hx : ev N f x = int a) (hy : ev N f y = int b) : (execOp (ev N f) ⟨d, .binOp .and T x y T', ty, pos, af, g⟩).run P w = .ok (.value (int (iand a b))) w := by
  simp [execOp, eqGuard, hx, hy, int, binOp, Op.intBits, iand]
  rfl
end
end Go.Eng

/- The engine, part 19: slices that are put into cells; fields. -/
namespace Go.Eng
open Go
section
variable {P : Program} {N : Frm} {f : Fr} {w w0 : World} {H0 H : Hp} {L : List Ent} {ops : Array Oper} {rest : List Oper} {Q : Fr → World → Prop} {d : Nat} {od : Option Nat} {ty : TypeId} {pos : String} {af : Array Edge}
theorem W.storeSl {α : Type} [Enc α] {T T' : TypeId} {a x : Operand} {b o i : Nat} {bb : Bool} {u : Value} {xs : List α} {cs : List Value} (cs' : List Value) (S : St w0 H0 w H L) (R : Sl H u xs) (ha : ev N f a = ptr b o) (hx : ev N f x = u) (hi : L[i]? = some (.box b T' cs)) (hT : lay P T = some (bb, 1))
    (ho : o + 1 ≤ cs.length) (hc : splice cs o [u] = cs')
    (k : ∀ w', St w0 H0 w' H (L.set i (.box b T' cs')) → WL P N ops rest Q (updo f od undef) w') : WL P N ops (⟨od, .store T a x, ty, pos, af, none⟩ :: rest) Q f w :=
  W.store cs' S ha hx hi hT (by rw [Sl.cellsOne R]; rfl) (by rw [Sl.cellsOne R]; simp [Sl.oneC R]) ho (by rw [Sl.cellsOne R]; exact hc) k
end
end Go.Eng

/- The engine, part 20: regions that draw their order: what only reads is taken first, in a class of worlds. -/
namespace Go.Eng
open Go
variable {P : Program} {md : Region.Mode} {ops : Array Oper} {Q : Exit → Act → World → Prop} {C : World → Prop}
/-- 'wpAny', and every world on the way is of the class C. -/
def wpAnyC (P : Program) (md : Region.Mode) (ops : Array Oper) (C : World → Prop) (Q : Exit → Act → World → Prop) : Nat → Array Bool → Act → World → Prop
  | 0, listed, a, w => C w ∧ Region.ready md ops listed = [] ∧ Q .normal a w
  | n + 1, listed, a, w => C w ∧ (Region.ready md ops listed = [] → Q .normal a w) ∧
      ∀ i ∈ Region.ready md ops listed, wpOp P ops Q i (wpAnyC P md ops C Q n (listed.setIfInBounds i true)) a w
theorem wpAnyC.cls : ∀ {n : Nat} {listed : Array Bool} {a : Act} {w : World}, wpAnyC P md ops C Q n listed a w → C w
  | 0, _, _, _, h => h.1
  | _ + 1, _, _, _, h => h.1
theorem wpAnyC.any : ∀ {n : Nat} {listed : Array Bool} {a : Act} {w : World}, wpAnyC P md ops C Q n listed a w → wpAny P md ops Q n listed a w
  | 0, _, _, _, h => h.2
  | _ + 1, _, _, _, h => ⟨h.2.1, fun i hi => wpOp_mono (fun _ _ h => wpAnyC.any h) (h.2.2 i hi)⟩
def YieldsC (P : Program) (ops : Array Oper) (C : World → Prop) (o : Oper) (v : Value) (a : Act) : Prop :=
  (Region.wanted o (yielded ops a.tmps) = true ∧ ∀ w, C w → (execOp a.eval o).run P w = .ok (.value v) w) ∨
  (Region.wanted o (yielded ops a.tmps) = false ∧ v = undef)
theorem YieldsC.wpOp {i : Nat} {o : Oper} {v : Value} {a : Act} (hi : ops[i]? = some o) (hy : YieldsC P ops C o v a)
    {K : Act → World → Prop} {w : World} (hC : C w) (h : K (a.put o.dst v) w) : wpOp P ops Q i K a w := by
  unfold Go.wpOp
  simp only [hi]
  rcases hy with ⟨hw, hv⟩ | ⟨hw, rfl⟩
  · simp only [hw, if_true, Oper.wp, hv w hC, Oper.upon]; exact .inl h
  · simp only [hw, Bool.false_eq_true, if_false]; exact h
theorem YieldsC.of_same {o : Oper} {v : Value} {a a' : Act} (hy : YieldsC P ops C o v a) (he : execOp a'.eval o = execOp a.eval o)
    (hw : Region.wanted o (yielded ops a'.tmps) = Region.wanted o (yielded ops a.tmps)) : YieldsC P ops C o v a' := by
  unfold YieldsC at *
  rw [he, hw]
  exact hy
theorem wpOp_putC {j : Nat} {oi oj : Oper} {v : Value} (hj : ops[j]? = some oj) (hap : oi.apart ops oj = true)
    (hsi : ∀ cs b, oi.op ≠ .select cs b) (hsj : ∀ cs b, oj.op ≠ .select cs b)
    (hQ : ∀ c a w, Q (.panic c) (a.put oi.dst v) w → Q (.panic c) a w) {K : Act → World → Prop} {a : Act} {w : World}
    (hy : YieldsC P ops C oi v a) (h : wpOp P ops Q j K (a.put oi.dst v) w) :
    wpOp P ops Q j (fun a' w' => YieldsC P ops C oi v a' ∧ K (a'.put oi.dst v) w') a w := by
  obtain ⟨h1, h2, h3⟩ := Oper.apart_spec hap
  have keep : ∀ (a : Act), YieldsC P ops C oi v a → ∀ u, YieldsC P ops C oi v (a.put oj.dst u) := fun a hy u =>
    hy.of_same (execOp_put oi hsi a oj.dst u h3) (wanted_put oi a oj.dst u h3)
  have keepD : ∀ d, YieldsC P ops C oi v { a with defers := d :: a.defers } := fun d => hy.of_same rfl rfl
  unfold wpOp at *
  simp only [hj] at *
  rw [wanted_put oj a oi.dst v h1] at h
  split
  · rename_i hw
    simp only [hw, if_true] at h
    rcases h with h | ⟨hasks, hlets⟩
    case inr => exact .inr ⟨by unfold Oper.asks at *; rw [execOp_put oj hsj a oi.dst v h1] at hasks; exact hasks, hlets⟩
    refine .inl ?_
    unfold Oper.wp at *
    rw [execOp_put oj hsj a oi.dst v h1] at h
    generalize (execOp a.eval oj).run P w = r at *
    cases r with
    | ok n w' =>
      cases n <;> simp only [Oper.upon] at h ⊢
      case value u => exact ⟨keep a hy u, by rw [← Act.put_comm a v u h2]; exact h⟩
      case skip => exact ⟨keep a hy _, by rw [← Act.put_comm a v undef h2]; exact h⟩
      case defer d =>
        refine ⟨keep _ (keepD d) _, ?_⟩
        rw [← Act.put_comm _ v undef h2, ← Act.put_defers]
        exact h
      case enter f args =>
        refine Calls.mono h fun e w'' he => ?_
        cases e with
        | returned u => exact ⟨keep a hy u, by rw [← Act.put_comm a v u h2]; exact he⟩
        | panicked c => exact hQ _ _ _ he
        | outgrown => exact he
      case row row args => exact Rows.mono h fun u w'' he => ⟨keep a hy u, by rw [← Act.put_comm a v u h2]; exact he⟩
    | halt x w' =>
      cases x <;> simp only [Oper.upon] at h ⊢
      case panic u => exact hQ _ _ _ h
  · rename_i hw
    simp only [hw] at h
    exact ⟨keep a hy _, by rw [← Act.put_comm a v undef h2]; exact h⟩
theorem wpAnyC_first {i : Nat} {oi : Oper} {v : Value} (hi : ops[i]? = some oi) (hsel : ∀ (j : Nat) (o : Oper) cs b, ops[j]? = some o → o.op ≠ .select cs b)
    (hQ : ∀ c a w, Q (.panic c) (a.put oi.dst v) w → Q (.panic c) a w) :
    ∀ (fuel : Nat) (listed : Array Bool) (a : Act) (w : World),
      (∀ j oj, ops[j]? = some oj → j ≠ i → listed.getD j true = false → (∀ e ∈ oj.after, Region.binds md e = true → e.on ≠ i) → oi.apart ops oj = true) →
      i ∈ Region.ready md ops listed → YieldsC P ops C oi v a →
      wpAnyC P md ops C Q fuel (listed.setIfInBounds i true) (a.put oi.dst v) w → wpAnyC P md ops C Q (fuel + 1) listed a w := by
  intro fuel
  induction fuel with
  | zero =>
    intro listed a w _ hr hy H
    refine ⟨H.cls, fun h => (by rw [h] at hr; cases hr), fun j hj => ?_⟩
    by_cases hji : j = i
    · subst hji; exact hy.wpOp hi H.cls H
    · have := ready_mono hj hji
      rw [H.2.1] at this
      cases this
  | succ fuel ih =>
    intro listed a w hfree hr hy H
    refine ⟨H.cls, fun h => (by rw [h] at hr; cases hr), fun j hj => ?_⟩
    by_cases hji : j = i
    · subst hji; exact hy.wpOp hi H.cls H
    · have h1 := H.2.2 j (ready_mono hj hji)
      obtain ⟨hjun, oj, hoj, hall⟩ := mem_ready.1 hj
      have hnot : ∀ e ∈ oj.after, Region.binds md e = true → e.on ≠ i := fun e he hb heq => by
        have h1 := hall e he hb
        have h0 := (mem_ready.1 hr).1
        rw [heq] at h1
        rcases Nat.lt_or_ge i listed.size with h' | h'
        · simp [h'] at h0 h1; rw [h0] at h1; cases h1
        · simp [Array.getElem?_eq_none h'] at h1
      have h2 := wpOp_putC hoj (hfree j oj hoj hji hjun hnot) (fun cs b => hsel i oi cs b hi) (fun cs b => hsel j oj cs b hoj) hQ hy h1
      have hfree' : ∀ k ok, ops[k]? = some ok → k ≠ i → (listed.setIfInBounds j true).getD k true = false →
          (∀ e ∈ ok.after, Region.binds md e = true → e.on ≠ i) → oi.apart ops ok = true := fun k ok hk hki hun hno => by
        refine hfree k ok hk hki ?_ hno
        by_cases hjk : j = k
        · subst hjk; exact hjun
        · rw [getD_set_ne true hjk] at hun; exact hun
      refine wpOp_mono (fun a' w' h3 => ih (listed.setIfInBounds j true) a' w' hfree' (ready_mono hr (Ne.symm hji)) h3.1 ?_) h2
      rw [Array.setIfInBounds_comm _ _ hji]
      exact h3.2
/-- The judgement. -/
structure WC (P : Program) (N : Frm) (ops : Array Oper) (C : World → Prop) (n : Nat) (listed : Array Bool) (Q : Fr → World → Prop) (f : Fr) (w : World) : Prop where
  out : wpAnyC P .any ops C (fun e a w' => ∃ f', a = act N f' ∧ e = .normal ∧ Q f' w') n listed (act N f) w
section
variable {N : Frm} {f : Fr} {w w0 : World} {H0 H : Hp} {L : List Ent} {Q : Fr → World → Prop} {n : Nat} {listed : Array Bool}
theorem WP.drawC {id : Nat} {Q : Exit → Fr → World → Prop} (C : World → Prop) (hm : P.follows .mixedOrders = true) (m : Nat) (hn : ops.size = m) (l0 : Array Bool) (hl : Array.replicate m false = l0) (h : WC P N ops C m l0 (Q .normal) f w.drew) : WP P N (.region id ops true) Q f w := by
  subst hn; subst hl
  refine wp_region_any hm (wpAny_monoQ (fun e a w ⟨f', ha, he, hq⟩ => ?_) _ _ _ _ h.out.any)
  subst he
  exact ⟨f', ha, hq⟩
theorem WC.take {i : Nat} {d : Option Nat} {op : Op} {ty : TypeId} {pos : String} {af : Array Edge} {v : Value} (listed' : Array Bool) (hi : ops[i]? = some ⟨d, op, ty, pos, af, none⟩) (hs : Region.noSelect ops = true) (hf : Region.free .any ops listed i = true)
    (hr : (Region.ready .any ops listed).contains i = true) (hl : listed.setIfInBounds i true = listed') (hrun : ∀ w, C w → (execOp (ev N f) ⟨d, op, ty, pos, af, none⟩).run P w = .ok (.value v) w)
    (h : WC P N ops C n listed' Q (updo f d v) w) : WC P N ops C (n + 1) listed Q f w := by
  subst hl
  refine ⟨wpAnyC_first hi (Region.noSelect_spec hs) (fun c a w ⟨f', _, he, _⟩ => by cases he) n listed _ w (Region.free_spec hi hf) (by simpa using hr) (v := v) (.inl ⟨by simp [Region.wanted], fun w hw => ?_⟩) ?_⟩
  · rw [eval_act']; exact hrun w hw
  · show wpAnyC P .any ops C _ n _ ((act N f).put d v) w
    rw [put_act]; exact h.out
theorem wpOp_of_WL {j : Nat} {o : Oper} {K : Fr → World → Prop} {Q : Fr → World → Prop} (hi : ops[j]? = some o) (h : WL P N ops [o] K f w) : wpOp P ops (fun e a w' => ∃ f', a = act N f' ∧ e = .normal ∧ Q f' w') j (fun a w' => ∃ f', a = act N f' ∧ K f' w') (act N f) w := by
  unfold wpOp
  rw [hi]
  have h' : wpList P ops (fun e a w' => ∃ f', a = act N f' ∧ e = .normal ∧ K f' w') [o] (act N f) w := h.out
  unfold wpList at h'
  show if Region.wanted o (yielded ops (act N f).tmps) = true then _ else _
  split
  · rename_i hw
    rw [if_pos hw] at h'
    rcases h' with h' | ⟨_, a0, w0, f0, _, he, _⟩
    · refine .inl (Oper.wp_monoQ (fun a w hk => ?_) (fun e a w hne ⟨f', ha, he, _⟩ => absurd he hne) h')
      obtain ⟨f', ha, _, hq⟩ := hk
      exact ⟨f', ha, hq⟩
    · cases he
  · rename_i hw
    rw [if_neg hw] at h'
    obtain ⟨f', ha, _, hq⟩ := h'
    exact ⟨f', ha, hq⟩
/-- One of the operations that may come next. -/
def Nxt (P : Program) (N : Frm) (ops : Array Oper) (C : World → Prop) (n : Nat) (listed : Array Bool) (Q : Fr → World → Prop) (f : Fr) (w : World) (i : Nat) : Prop :=
  ∃ o, ops[i]? = some o ∧ WL P N ops [o] (fun f' w' => WC P N ops C n (listed.setIfInBounds i true) Q f' w') f w
theorem WC.next {rs : List Nat} (hC : C w) (hr : Region.ready .any ops listed = rs) (hne : rs ≠ []) (h : ∀ i ∈ rs, Nxt P N ops C n listed Q f w i) : WC P N ops C (n + 1) listed Q f w := by
  subst hr
  refine ⟨hC, fun h0 => absurd h0 hne, fun i hi => ?_⟩
  obtain ⟨o, ho, hw⟩ := h i hi
  refine wpOp_mono (fun a w' ⟨f', ha, hq⟩ => ?_) (wpOp_of_WL (Q := Q) ho hw)
  subst ha; exact hq.out
theorem Nxt.mk {i : Nat} {o : Oper} (listed' : Array Bool) (hi : ops[i]? = some o) (hl : listed.setIfInBounds i true = listed') (h : WL P N ops [o] (fun f' w' => WC P N ops C n listed' Q f' w') f w) : Nxt P N ops C n listed Q f w i := by
  subst hl; exact ⟨o, hi, h⟩
theorem all1 {p : Nat → Prop} {a : Nat} (h : p a) : ∀ i ∈ [a], p i := by intro i hi; rw [List.mem_singleton.1 hi]; exact h
theorem allS {p : Nat → Prop} {a : Nat} {l : List Nat} (h : p a) (k : ∀ i ∈ l, p i) : ∀ i ∈ a :: l, p i := by
  intro i hi
  rcases List.mem_cons.1 hi with rfl | hi
  · exact h
  · exact k i hi
theorem WC.done (hC : C w) (hr : Region.ready .any ops listed = []) (h : Q f w) : WC P N ops C n listed Q f w := by
  refine ⟨?_⟩
  cases n with
  | zero => exact ⟨hC, hr, f, rfl, rfl, h⟩
  | succ n => exact ⟨hC, fun _ => ⟨f, rfl, rfl, h⟩, by rw [hr]; simp⟩
end
end Go.Eng

/- The engine, part 22: builders: pointers that are seen as bytes, the string over a row's bytes. -/
namespace Go.Eng
open Go Go.RowKit
section
variable {P : Program} {N : Frm} {f : Fr} {w w0 : World} {H0 H : Hp} {L : List Ent} {ops : Array Oper} {rest : List Oper} {Q : Fr → World → Prop} {d : Nat} {od : Option Nat} {ty : TypeId} {pos : String} {af : Array Edge} {g : Option (Nat × Bool)}
theorem BoxOk.shape {b : Nat} {T : TypeId} {cs : List Value} (h : BoxOk w H b T cs) : ∃ n, w.shape? b = some (T, n) ∧ cs.length ≤ n := by
  obtain ⟨_, arr, fz, hc, ⟨r, hr⟩, _⟩ := h
  refine ⟨arr.size, by simp [World.shape?, hc], ?_⟩
  rw [← Array.length_toList, hr, List.length_append]; omega
theorem ConS.mono {k : FuncId} {args : List Value} {H1 : Hp} {L2 : List Ent} {R R' : Hp → Value → List Ent → Prop} (h : ConS P k args w0 H0 w H1 L2 R) (hr : ∀ H v L, R H v L → R' H v L) : ConS P k args w0 H0 w H1 L2 R' :=
  ⟨h.1, Calls.mono h.2 fun _ _ ⟨v, H', L', he, hl, hS, hv⟩ => ⟨v, H', L', he, hl, hS, hr _ _ _ hv⟩⟩
end
/-- strings.Index at a byte. -/
noncomputable def stringslite_Index (s sub : Str) : Option Int := match sub with | [c] => strings_IndexByte s c | _ => none
theorem ixOneCon {P : Program} {k : FuncId} {fn : Func} {c : Code} {w : World} {H : Hp} {s sub : Str} {r : Int} (hf : P.funcs[k]? = some fn) (hb : fn.body = some c) (hname : (fn.name == "runtime.NumGoroutine") = false) (hw : Holds w H) (h : stringslite_Index s sub = some r)
    (hc : ∀ (s : ByteArray) (c : UInt8) (w : World), Calls P k #[.string s, .string ⟨#[c]⟩] w fun e w' => e = .returned (.int .i64 (Lib.indexByte s.data.toList c)) ∧ w' = w) :
    Con P k [str s, str sub] w H (fun _ u => u = int r) := by
  unfold stringslite_Index at h
  split at h
  case h_2 => cases h
  rename_i c
  have hh := hc ⟨⟨s⟩⟩ c w
  simp only [strings_IndexByte, Option.some.injEq] at h
  subst h
  exact Con.of_calls_same hf hb hname hw hh
end Go.Eng

/- The engine, part 23: operands' values, one by one. -/
namespace Go.Eng
open Go
theorem mapN {N : Frm} {f : Fr} : ([] : List Operand).map (ev N f) = [] := rfl
theorem mapC {N : Frm} {f : Fr} {x : Operand} {xs : List Operand} {v : Value} {vs : List Value} (h : ev N f x = v) (k : xs.map (ev N f) = vs) : (x :: xs).map (ev N f) = v :: vs := by
  rw [List.map_cons, h, k]
end Go.Eng

/- The engine, part 24: calls of methods through interface values. -/
namespace Go.Eng
open Go
/-- A call of a method of an interface value: it returns a value of which R holds, and leaves what was there as it was. -/
def ConI (P : Program) (m : String) (recv : Value) (args : List Value) (w : World) (H : Hp) (R : Hp → Value → Prop) : Prop :=
  ∃ k as', (∀ w, (callMethod recv m args.toArray).run P w = .ok (.enter k as') w) ∧
    Calls P k as' w (fun e w' => ∃ v H', e = .returned v ∧ Post w H w' H' ∧ R H' v)
section
variable {P : Program} {N : Frm} {f : Fr} {w w0 : World} {H0 H : Hp} {L : List Ent} {ops : Array Oper} {rest : List Oper} {Q : Fr → World → Prop} {d : Nat} {od : Option Nat} {ty : TypeId} {pos : String} {af : Array Edge} {g : Option (Nat × Bool)}
theorem ConI.mk {m : String} {k : FuncId} {recv v : Value} {args : List Value} {R : Hp → Value → Prop} (hm : ∀ w, (callMethod recv m args.toArray).run P w = .ok (.enter k (v :: args).toArray) w) (C : Con P k (v :: args) w H R) : ConI P m recv args w H R := ⟨k, _, hm, C.2⟩
theorem W.invoke {m : String} {x : Operand} {xs : List Operand} {ats : Array TypeId} {args : List Value} {rv : Value} {R : Hp → Value → Prop} (S : St w0 H0 w H L) (hx : ev N f x = rv) (ha : xs.map (ev N f) = args) (C : ConI P m rv args w H R)
    (K : ∀ v w' H', H.le H' → St w0 H0 w' H' L → R H' v → WL P N ops rest Q (updo f od v) w') : WL P N ops (⟨od, .call ⟨.invoke x m, xs.toArray, ats⟩, ty, pos, af, none⟩ :: rest) Q f w := by
  obtain ⟨k, as', hm, hc⟩ := C
  refine WL.enterw (w' := w) (k := k) (args := as') ?_ (Calls.mono hc fun e w' ⟨v, H', he, hp, hv⟩ => ⟨v, he, K v w' H' hp.le (S.call hp) hv⟩)
  subst ha; subst hx
  have e : (#[ev N f x] ++ xs.toArray.map (ev N f)).extract 1 (#[ev N f x] ++ xs.toArray.map (ev N f)).size = (xs.map (ev N f)).toArray := by
    simp [List.take_of_length_le]
  have a0 : (#[ev N f x] ++ xs.toArray.map (ev N f))[0]? = some (ev N f x) := by simp
  have : (execOp (ev N f) ⟨od, .call ⟨.invoke x m, xs.toArray, ats⟩, ty, pos, af, none⟩).run P w = (callMethod (ev N f x) m (xs.map (ev N f)).toArray).run P w := by
    show (Go.invoke (.fn (.method m) #[]) (#[ev N f x] ++ xs.toArray.map (ev N f))).run P w = _
    unfold Go.invoke
    simp only [a0, e]
  rw [this]
  exact hm w
theorem R.mkIface {T : TypeId} {D : TypeDesc} {x : Operand} {v : Value} (hx : ev N f x = v) (hT : P.underlying T = some D) (hd : ∀ ms, D ≠ .interface ms) :
    (execOp (ev N f) ⟨od, .makeInterface T x, ty, pos, af, g⟩).run P w = .ok (.value (.iface T v)) w := by
  simp only [execOp, Instr.makeInterface, Sem.run_bind, run_underlying hT, Result.andThen_ok, hx]
  cases D <;> first | rfl | exact absurd rfl (hd _)
end
end Go.Eng

/- The engine, part 25: slices that are made, and written element by element. -/
namespace Go.Eng
open Go
set_option linter.unusedSimpArgs false
/-- The cells ms read as the list xs, a cell an element. -/
def Ms {α : Type} [Enc α] (H : Hp) (ms : List Value) (xs : List α) : Prop := Enc.sz α = 1 ∧ Cells H ms xs ∧ xs.length ≤ 1048576
def xmake {α : Type} (n : Int) (z : α) : Option (List α) := if 0 ≤ n ∧ n ≤ 1048576 then some (List.replicate n.toNat z) else none
/-- An element of a list is put. -/
def xput {α : Type} (xs : List α) (i : Int) (x : α) : Option (List α) := if 0 ≤ i ∧ i < xs.length then some (xs.set i.toNat x) else none
section
variable {α : Type} [Enc α] {H H' : Hp} {ms : List Value} {xs : List α}
theorem Ms.mono (h : Ms H ms xs) (hl : H.le H') : Ms H' ms xs := ⟨h.1, h.2.1.mono hl, h.2.2⟩
theorem Ms.length (h : Ms H ms xs) : ms.length = xs.length := by rw [h.2.1.length, h.1, Nat.mul_one]
theorem Ms.get (h : Ms H ms xs) {i : Int} {x : α} (hx : xnth xs i = some x) : 0 ≤ i ∧ i < xs.length ∧ ∃ v, ms[i.toNat]? = some v ∧ Enc.cells H [v] x := by
  unfold xnth at hx
  split at hx
  · rename_i h0
    obtain ⟨hlt, _⟩ := List.getElem?_eq_some_iff.1 hx
    obtain ⟨cs, r, e, hc⟩ := Cells.get h.2.1 hx
    have hl := Enc.len hc
    rw [h.1] at hl
    rw [h.1, Nat.mul_one] at e
    match cs, hl with
    | [v], _ =>
      refine ⟨h0, by omega, v, ?_, hc⟩
      have := congrArg (fun l => l[0]?) e
      simpa using this
  · cases hx
theorem Cells.set1 (h1 : Enc.sz α = 1) {v : Value} {x : α} (hv : Enc.cells H [v] x) : ∀ {xs : List α} {ms : List Value} (i : Nat), Cells H ms xs → i < xs.length → Cells H (ms.set i v) (xs.set i x)
  | [], _, _, _, hi => absurd hi (by simp)
  | y :: ys, _, 0, ⟨cs, r, e, hc, hr⟩, _ => by
    have hl := Enc.len hc
    rw [h1] at hl
    match cs, hl with
    | [u], _ => subst e; exact ⟨[v], r, rfl, hv, hr⟩
  | y :: ys, _, i + 1, ⟨cs, r, e, hc, hr⟩, hi => by
    have hl := Enc.len hc
    rw [h1] at hl
    match cs, hl with
    | [u], _ => subst e; exact ⟨[u], r.set i v, rfl, hc, Cells.set1 h1 hv i hr (by simpa using hi)⟩
theorem Ms.set (h : Ms H ms xs) {i : Int} {x : α} {v : Value} {ys : List α} (hv : Enc.cells H [v] x) (hx : xput xs i x = some ys) : Ms H (ms.set i.toNat v) ys := by
  unfold xput at hx
  split at hx
  · rename_i h0
    injection hx with hx
    subst hx
    exact ⟨h.1, Cells.set1 h.1 hv _ h.2.1 (by omega), by rw [List.length_set]; exact h.2.2⟩
  · cases hx
omit [Enc α] in
theorem xput_len {i : Int} {x : α} {ys : List α} (hx : xput xs i x = some ys) : ys.length = xs.length ∧ 0 ≤ i ∧ i < xs.length := by
  unfold xput at hx
  split at hx
  · rename_i h0; injection hx with hx; subst hx; exact ⟨List.length_set, h0.1, h0.2⟩
  · cases hx
theorem Ms.sl {b : Nat} (h : Ms H ms xs) {n : Nat} (hn : xs.length = n) (hA : At H ⟨b, 0, none⟩ ms) : Sl H (.slice (some ⟨b, 0, none⟩) n n) xs := by
  subst hn
  have hm : xs.length ≤ maxLen := by have := h.2.2; unfold maxLen; omega
  exact ⟨_, _, rfl, Nat.le_refl _, hm, .inr ⟨b, 0, ms, rfl, hA, h.2.1⟩⟩
theorem Cells.rep {z : α} {zv : Value} (hc : Enc.cells H [zv] z) : ∀ n : Nat, Cells H (List.replicate n zv) (List.replicate n z)
  | 0 => rfl
  | n + 1 => ⟨[zv], List.replicate n zv, rfl, hc, Cells.rep hc n⟩
end
section
variable {P : Program} {N : Frm} {f : Fr} {w w0 : World} {H0 H : Hp} {L : List Ent} {ops : Array Oper} {rest : List Oper} {Q : Fr → World → Prop} {d : Nat} {od : Option Nat} {ty : TypeId} {pos : String} {af : Array Edge} {g : Option (Nat × Bool)}
theorem W.makeSlice {α : Type} [Enc α] {T e : TypeId} {x y : Operand} {n : Int} {z : α} {zv : Value} {xs : List α} (S : St w0 H0 w H L) (hE : Elem P T e 1) (h1 : Enc.sz α = 1) (hx : ev N f x = int n) (hy : ev N f y = int n) (hz : zer P e = some [zv]) (hc : Enc.cells H [zv] z)
    (h : xmake n z = some xs) (K : ∀ b w' ms n, xs.length = n → Ms H ms xs → St w0 H0 w' H (.box b e ms :: L) → WL P N ops rest Q (upd f d (.slice (some ⟨b, 0, none⟩) n n)) w') :
    WL P N ops (⟨some d, .makeSlice T x y, ty, pos, af, none⟩ :: rest) Q f w := by
  unfold xmake at h
  split at h
  case isFalse => cases h
  rename_i h0
  injection h with h
  subst h
  obtain ⟨ht, inf, zz, hinf, hzz, hsize, hzs, hbytes⟩ := hE
  have hzc : zz.cells.toList = [zv] := by
    unfold zer at hz
    rw [hinf] at hz
    simpa [hzz] using hz
  have hza : zz.cells = #[zv] := by
    apply Array.toList_inj.1; simpa using hzc
  have hrow : ((Array.range (n.toNat * 1)).map (zz.cells[· % zz.cells.size]!)).toList = List.replicate n.toNat zv := by
    rw [hza]
    apply List.ext_getElem?
    intro i
    simp only [Nat.mul_one, Array.toList_map, Array.toList_range, List.getElem?_map, List.getElem?_replicate]
    by_cases hi : i < n.toNat
    · simp [hi, Nat.mod_one]
    · simp [hi]
  have S1 := S.box e ((Array.range (n.toNat * 1)).map (zz.cells[· % zz.cells.size]!)) (0, 0) (List.replicate n.toNat zv) [] (by rw [hrow]; simp) (by intro i _ h; exact Nat.not_lt_zero _ h.2)
  have K1 := K w.heap.size _ _ n.toNat List.length_replicate ⟨h1, Cells.rep hc n.toNat, by rw [List.length_replicate]; omega⟩ S1
  refine WL.valw (v := .slice (some ⟨w.heap.size, 0, none⟩) n.toNat n.toNat) (w' := w.alloc (.cells ((Array.range (n.toNat * 1)).map (zz.cells[· % zz.cells.size]!)) e)) ?_ K1
  have hw : IntKind.i64.wrap n = n := wr_eq ⟨by omega, by omega⟩
  have hb : ¬ ((inf.bytes : Int) * n > 2 ^ 48) := by
    have h1 : (inf.bytes : Int) ≤ 512 := by omega
    have : (inf.bytes : Int) * n ≤ 512 * 1048576 := Int.mul_le_mul h1 h0.2 h0.1 (by omega)
    omega
  have hroom : ¬ (n.toNat * inf.bytes > roomBytes) := by
    have : n.toNat * inf.bytes ≤ 1048576 * 512 := Nat.mul_le_mul (by omega) hbytes
    unfold roomBytes; omega
  have e0 : ev N f x = .int .i64 n := hx
  have e1 : ev N f y = .int .i64 n := hy
  have hne : ¬ ((decide (n < 0) || decide ((inf.bytes : Int) * n > 2 ^ 48)) || decide (n < 0) || decide (n > n)) = true := by
    simp only [Bool.or_eq_true, decide_eq_true_eq]; omega
  simp only [execOp, Instr.makeSlice, run_underlying ht, asInt, asIntOf, e0, e1, typeInfo, hinf, Sem.run_bind, run_program, Result.andThen_ok, Sem.run_pure, hw]
  rw [if_neg (by simpa using hne)]
  simp only [askRoom, hroom, if_false, Sem.run_bind, Sem.run_pure, Result.andThen_ok, sizeOf, typeInfo, run_program, hinf, hsize, zeroValue, hzz]
  by_cases hn : n.toNat * 1 = 0
  · simp only [hn, if_true, Sem.run_pure, Result.andThen_ok, newRow]
    simp
    have e0 : ∀ g : Nat → Value, (Array.range 0).map g = #[] := fun g => Array.eq_empty_of_size_eq_zero (by simp)
    rw [e0, e0]
  · simp only [hn, if_false, Sem.run_bind, run_program, hinf, hzz, Sem.run_pure, Result.andThen_ok, newRow]
    simp
theorem splice_one {ms : List Value} {o : Nat} {v : Value} (h : o < ms.length) : splice ms o [v] = ms.set o v := by
  unfold splice
  rw [List.set_eq_take_append_cons_drop, if_pos h]
  simp
theorem W.storeM {α : Type} [Enc α] {T T' : TypeId} {a x : Operand} {b i : Nat} {m : Int} {v : Value} {xs ys : List α} {y : α} {ms : List Value} (S : St w0 H0 w H L) (hM : Ms H ms xs) (ha : ev N f a = ptr b m.toNat) (hx : ev N f x = v) (hi : L[i]? = some (.box b T' ms))
    (hT : lay P T = some (false, 1)) (hv1 : v.cells = #[v]) (hv : Enc.cells H [v] y) (h : xput xs m y = some ys)
    (k : ∀ w' ms', Ms H ms' ys → St w0 H0 w' H (L.set i (.box b T' ms')) → WL P N ops rest Q (updo f od undef) w') : WL P N ops (⟨od, .store T a x, ty, pos, af, none⟩ :: rest) Q f w := by
  obtain ⟨_, h0, h1⟩ := xput_len h
  have hl := hM.length
  refine W.store (i := i) (ms.set m.toNat v) S ha hx hi hT (by rw [hv1]; rfl) ?_ (by omega) ?_ (fun w' S' => k w' _ (hM.set hv h) S')
  · rw [hv1]
    exact List.all_eq_true.2 fun u hu => Enc.one hv u (by simpa using hu)
  · rw [hv1]
    exact splice_one (by omega)
theorem R.idxM {α : Type} [Enc α] {T e : TypeId} {x i : Operand} {b n : Nat} {m : Int} {xs : List α} {z : α} (hx : ev N f x = .slice (some ⟨b, 0, none⟩) n n) (hn : xs.length = n) (hi : ev N f i = int m) (hE : Elem P T e 1) (h : xnth xs m = some z) :
    (execOp (ev N f) ⟨od, .indexAddr T x i, ty, pos, af, g⟩).run P w = .ok (.value (ptr b m.toNat)) w := by
  refine R.idxB hx hi hE ?_
  unfold xnth at h
  split at h
  · rename_i h0
    have := (List.getElem?_eq_some_iff.1 h).1
    omega
  · cases h
end
end Go.Eng

/- The engine, part 26: the count of a byte in a string. -/
namespace Go.Eng
open Go
section
variable {P : Program} {N : Frm} {f : Fr} {w w0 : World} {H0 H : Hp} {L : List Ent} {ops : Array Oper} {rest : List Oper} {Q : Fr → World → Prop} {d : Nat} {od : Option Nat} {ty : TypeId} {pos : String} {af : Array Edge} {g : Option (Nat × Bool)}
theorem W.countString {k : FuncId} {fn : Func} {x y : Operand} {s : Str} {c : UInt8} {ats : Array TypeId} (hf : P.funcs[k]? = some fn) (hname : (fn.name == "runtime.NumGoroutine") = false) (hb : fn.body.isNone = true) (hn : Extern.findNext fn = none) (he : Extern.find fn = some Extern.BytealgCount.count)
    (hx : ev N f x = str s) (hy : ev N f y = byt c) (h : WL P N ops rest Q (updo f od (int (s.count c : Nat))) w) : WL P N ops (⟨od, .call ⟨.value (.func k), #[x, y], ats⟩, ty, pos, af, none⟩ :: rest) Q f w := by
  refine WL.valw (w' := w) (v := int (s.count c : Nat)) ?_ h
  have h1 : (execOp (ev N f) ⟨od, .call ⟨.value (.func k), #[x, y], ats⟩, ty, pos, af, none⟩) = callFunc k (#[] ++ #[x, y].map (ev N f) ++ #[]) := rfl
  have h2 : (#[] ++ #[x, y].map (ev N f) ++ #[]) = #[str s, byt c] := by simp [hx, hy]
  have h3 := Lib.run_countString (P := P) ⟨⟨s⟩⟩ (c.toNat : Int) w
  have h4 : ((c.toNat : Int).toNat.toUInt8) = c := by simp
  rw [h4] at h3
  rw [h1, h2, run_callFunc_extern hf hname hb hn he]
  show ((Extern.BytealgCount.count #[str s, byt c]).run P w).andThen _ = _
  rw [show (Extern.BytealgCount.count #[str s, byt c]).run P w = _ from h3]
  rfl
end
end Go.Eng
