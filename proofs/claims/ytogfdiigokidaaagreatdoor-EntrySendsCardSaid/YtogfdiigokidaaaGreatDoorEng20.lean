/- A part of the proof of laws of the seat. -/
import Derived.Test.YtogfdiigokidaaaGreatDoorEng13
import Derived.StillTail
import Derived.Maps.Keyed
import Derived.Sort.Grow
import Derived.Sort.EncStr
import Derived.Lib.SlicesCompact
import Derived.Lib.LaidTab
import Derived.Lib.ItoaNum
/- The engine, part 14: maps of the call's own, keyed by strings; constants; loops that are unrolled; arrays by number; regions that draw, and write at their end. -/
namespace Go.Eng
open Go Go.ChangeMaps
set_option linter.unusedVariables false
set_option linter.unusedSimpArgs false

section
variable {P : Program} {N : Nat} {f : Fr} {w w' w0 : World} {H0 H : Hp} {L : List Ent} {ops : Array Oper} {rest : List Oper} {Q : Fr → World → Prop} {d : Nat} {od : Option Nat} {ty : TypeId} {pos : String} {af : Array Edge} {g : Option (Nat × Bool)}
/-- A new block of one's own. -/
theorem St.new (S : St w0 H0 w H L) (o : Obj) (e : Ent) (hb : e.blk = some w.heap.size) (hok : e.ok (w.alloc o) H) : St w0 H0 (w.alloc o) H (e :: L) := by
  have hsz : w0.heap.size ≤ w.heap.size := S.post.below.size
  have hold : ∀ i, i < w.heap.size → (w.alloc o).heap[i]? = w.heap[i]? := fun i hi => RowKit.Below.heap_alloc w _ i hi
  refine ⟨⟨S.post.below.alloc hsz _, S.post.le, S.post.eqb, fun b T' l hbb => ?_⟩, ?_, ?_, ?_⟩
  · obtain ⟨cs', fz', hc, hr'⟩ := S.holds b T' l hbb
    exact ⟨cs', fz', by rw [hold b (Array.getElem?_eq_some_iff.1 hc).1]; exact hc, hr'⟩
  · intro e' he
    rcases List.mem_cons.1 he with rfl | he
    · exact hok
    · exact Ent.ok_keep (S.ents e' he) fun b hb => ⟨hold b (Ent.ok_lt (S.ents e' he) hb), rfl⟩
  · intro e' he b hbb
    rcases List.mem_cons.1 he with rfl | he
    · rw [hb] at hbb; cases hbb; exact hsz
    · exact S.own e' he b hbb
  · rw [List.filterMap_cons, hb]
    exact List.nodup_cons.2 ⟨fun hm => Nat.lt_irrefl _ (S.lt hm), S.nodup⟩
end

/-! constants -/
theorem R.ofEq {r : Result Next} {w : World} {v v' : Value} (h : r = .ok (.value v) w) (e : v = v') : r = .ok (.value v') w := by subst e; exact h

/-! loops that are unrolled -/
def RD (P : Program) (N : Nat) (c : Code) (Q : Exit → Fr → World → Prop) (n : Nat) (f : Fr) (w : World) : Prop :=
  Code.rounds P c (fun e a w' => ∃ f', a = act N f' ∧ Q e f' w') n (act N f) w
section
variable {P : Program} {N : Nat} {f : Fr} {w w' w0 : World} {H0 H : Hp} {L : List Ent} {ops : Array Oper} {rest : List Oper} {d : Nat} {od : Option Nat} {ty : TypeId} {pos : String} {af : Array Edge} {g : Option (Nat × Bool)}
theorem WP.loopRd {c : Code} {Q : Exit → Fr → World → Prop} (n : Nat) (h : RD P N c Q n f w) : WP P N (.loop c) Q f w := wp_loop_rounds n h
theorem RD.succ {c : Code} {Q : Exit → Fr → World → Prop} {n : Nat} (h : WP P N c (fun e f w => match e with | .normal => RD P N c Q n f w | e => Q e f w) f w) : RD P N c Q (n + 1) f w := by
  unfold RD
  rw [rounds_succ]
  refine Code.wp_mono (fun e a w ⟨f', ha, hq⟩ => ?_) h
  subst ha
  cases e with
  | normal => exact hq
  | _ => exact ⟨f', rfl, hq⟩

/-! arrays by number -/
theorem xnth_map {α β : Type} {F : α → β} {l : List α} {n : Int} {c : α} (h : xnth l n = some c) : 0 ≤ n ∧ n < l.length ∧ (l.map F)[n.toNat]? = some (F c) := by
  unfold xnth at h
  split at h
  · rename_i h0
    obtain ⟨hl, he⟩ := List.getElem?_eq_some_iff.1 h
    exact ⟨h0, by omega, by rw [List.getElem?_map, h]; rfl⟩
  · cases h
/-- An element of an array that is a value. -/
theorem R.idxA {α : Type} (F : α → Value) {T e n : Nat} {x y : Operand} {l : List α} {i : Int} {c : α} (hx : ev N f x = agg (l.map F)) (hy : ev N f y = int i) (hT : P.underlying T = some (.array n e)) (he : lay P e = some (false, 1)) (hn : l.length = n) (h : xnth l i = some c) :
    (execOp (ev N f) ⟨od, .index T x y, ty, pos, af, g⟩).run P w = .ok (.value (F c)) w := by
  obtain ⟨h0, h1, h2⟩ := xnth_map (F := F) h
  obtain ⟨g1, g2⟩ := run_isAgg (w := w) he
  have h3 : i < (n : Int) := by omega
  simp [execOp, Instr.index, asIntOf, hx, hy, int, agg, run_underlying hT, h0, h3, part, g1, g2, Result.andThen]
  rw [List.getElem?_map] at h2
  rw [h2]; rfl
/-- The address of an element of an array of one's own. -/
theorem R.idxAddrA {T e n m : Nat} {bb : Bool} {x y : Operand} {b o : Nat} {i : Int} (hx : ev N f x = ptr b o) (hy : ev N f y = int i) (hT : P.underlying T = some (.array n e)) (he : lay P e = some (bb, m)) (h : 0 ≤ i ∧ i < n) :
    (execOp (ev N f) ⟨od, .indexAddr T x y, ty, pos, af, g⟩).run P w = .ok (.value (ptr b (o + i.toNat * m))) w := by
  obtain ⟨_, g2⟩ := run_isAgg (w := w) he
  simp [execOp, Instr.indexAt, Instr.sureAddr, asIntOf, hx, hy, int, ptr, run_underlying hT, h.1, h.2, g2, Result.andThen, Addr.add_lit]
theorem R.nilCheck {x : Operand} {a : Addr} (hx : ev N f x = .pointer (some a)) : (execOp (ev N f) ⟨od, .nilCheck x, ty, pos, af, g⟩).run P w = .ok (.value (.pointer (some a))) w := by
  simp [execOp, hx]
theorem R.nilCheckB {x : Operand} {b o : Nat} (hx : ev N f x = ptr b o) : (execOp (ev N f) ⟨od, .nilCheck x, ty, pos, af, g⟩).run P w = .ok (.value (ptr b o)) w := by
  simp [execOp, hx, ptr]

/-! cells as they are: elements of slices that hold pointers -/
structure Raw (n : Nat) where
  l : List Value
  len : l.length = n
  one : l.all Value.oneCell' = true
instance (n : Nat) : Enc (Raw (n + 1)) where
  sz := n + 1
  cells H cs x := cs = x.l
  pos := Nat.succ_pos _
  len := fun {H cs x} h => by rw [h]; exact x.len
  mono := fun h _ => h
  one := fun {H cs x} h v hv => by rw [h] at hv; exact List.all_eq_true.1 x.one v hv

/-! regions that draw; all their operations but the last ones only read -/
/-- Whatever order is taken among the first operations, till L holds. -/
def anyH (P : Program) (md : Region.Mode) (ops : Array Oper) (C : World → Prop) (n : Nat) (Lq : Array Bool → Act → Prop) : Nat → Array Bool → Act → Prop
  | 0, listed, a => Lq listed a
  | k + 1, listed, a => Region.ready md ops listed ≠ [] ∧ ∀ i ∈ Region.ready md ops listed, i < n ∧ qOp P ops C i (anyH P md ops C n Lq k (listed.setIfInBounds i true)) a
variable {md : Region.Mode} {C : World → Prop} {n m : Nat} {Lq : Array Bool → Act → Prop}
theorem anyH_any {Q' : Exit → Act → World → Prop} (hL : ∀ listed a w, C w → Lq listed a → wpAny P md ops Q' m listed a w) : ∀ (k : Nat) (listed : Array Bool) (a : Act) (w : World), C w → anyH P md ops C n Lq k listed a → wpAny P md ops Q' (k + m) listed a w
  | 0, listed, a, w, hw, h => by rw [Nat.zero_add]; exact hL _ _ _ hw h
  | k + 1, listed, a, w, hw, h => by
    have e : k + 1 + m = (k + m) + 1 := by omega
    rw [e]
    exact ⟨fun h0 => absurd h0 h.1, fun i hi => wpOp_of_qOp hw (fun a' w' hw' h' => anyH_any hL k _ a' w' hw' h') (h.2 i hi).2⟩
theorem anyH_first {i : Nat} {oi : Oper} {v : Value} (hi : ops[i]? = some oi) (hsel : ∀ (j : Nat) (o : Oper) cs b, ops[j]? = some o → o.op ≠ .select cs b)
    (hs : Region.sinkB md ops n = true) (hc : Region.chainB md ops n = true) (hn : n < ops.size) (hin : i < n) (hdone : ∀ listed a, Lq listed a → ∀ j ∈ Region.ready md ops listed, n ≤ j) :
    ∀ (k : Nat) (listed : Array Bool) (a : Act), HeadInv md ops n listed →
      (∀ j oj, ops[j]? = some oj → j ≠ i → listed.getD j true = false → (∀ e ∈ oj.after, Region.binds md e = true → e.on ≠ i) → oi.apart ops oj = true) →
      i ∈ Region.ready md ops listed → YieldsIn P ops C oi v a → anyH P md ops C n Lq k (listed.setIfInBounds i true) (a.put oi.dst v) → anyH P md ops C n Lq (k + 1) listed a := by
  intro k
  induction k with
  | zero =>
    intro listed a inv _ hr hy H
    have hun := (mem_ready.1 hr).1
    refine ⟨fun h => by rw [h] at hr; exact absurd hr (List.not_mem_nil), fun j hj => ?_⟩
    have hjn : j < n := Nat.lt_of_not_le fun h => absurd hj (tail_waits hs hc hn inv _ i rfl hin hun j h)
    by_cases hji : j = i
    · subst hji; exact ⟨hjn, hy.qOp hi H⟩
    · exact absurd (hdone _ _ H j (ready_mono hj hji)) (by omega)
  | succ k ih =>
    intro listed a inv hfree hr hy H
    have hun := (mem_ready.1 hr).1
    refine ⟨fun h => by rw [h] at hr; exact absurd hr (List.not_mem_nil), fun j hj => ?_⟩
    have hjn : j < n := Nat.lt_of_not_le fun h => absurd hj (tail_waits hs hc hn inv _ i rfl hin hun j h)
    refine ⟨hjn, ?_⟩
    by_cases hji : j = i
    · subst hji; exact hy.qOp hi H
    · obtain ⟨hjun, oj, hoj, hall⟩ := mem_ready.1 hj
      have hnot : ∀ e ∈ oj.after, Region.binds md e = true → e.on ≠ i := fun e he hb heq => by
        have h1 := hall e he hb
        rw [heq, getD_both hun] at h1
        cases h1
      refine qOp_mono (fun a' h3 => ih (listed.setIfInBounds j true) a' (inv.set hj hjn) (fun x ox hx hxi hxu hxn => ?_) (ready_mono hr (Ne.symm hji)) h3.1 ?_)
        (qOp_put hoj (hfree j oj hoj hji hjun hnot) (fun cs b => hsel i oi cs b hi) (fun cs b => hsel j oj cs b hoj) hy (H.2 j (ready_mono hj hji)).2)
      · refine hfree x ox hx hxi ?_ hxn
        by_cases hjx : j = x
        · subst hjx; exact hjun
        · rw [getD_set_ne true hjx] at hxu; exact hxu
      · rw [Array.setIfInBounds_comm _ _ hji]
        exact h3.2
theorem anyH_lex {Qa : Act → Prop} (hsel : Region.noSelect ops = true) (hs : Region.sinkB md ops n = true) (hc : Region.chainB md ops n = true) (hn : n < ops.size) :
    ∀ (l : List Oper) (k : Nat) (listed : Array Bool) (a : Act), (∀ j, j < l.length → l[j]? = ops[k + j]?) → k + l.length = n → HeadInv md ops n listed →
    Region.lexHead md ops m l.length k listed = true → wpQuiet P ops C Qa l a →
    anyH P md ops C n (fun listed' a' => Region.seqB md ops m n listed' = true ∧ Qa a') l.length listed a
  | [], k, listed, a, _, hk, _, hB, h => by
    obtain rfl : k = n := by simpa using hk
    exact ⟨by simpa [Region.lexHead] using hB, h⟩
  | o :: l, k, listed, a, hl, hk, inv, hB, h => by
    have h0 : ops[k]? = some o := by simpa using (hl 0 (by simp)).symm
    simp only [List.length_cons, Region.lexHead, Bool.and_eq_true] at hB
    obtain ⟨⟨hr, hf⟩, hB'⟩ := hB
    have hkn : k < n := by simp only [List.length_cons] at hk; omega
    have hr' : k ∈ Region.ready md ops listed := by simpa using hr
    have hst : qOp P ops C k (wpQuiet P ops C Qa l) a := by unfold qOp; simp only [h0]; exact h
    obtain ⟨v, hy, hK⟩ := yieldsIn_of_qOp h0 hst
    refine anyH_first h0 (Region.noSelect_spec hsel) hs hc hn hkn (fun listed' a' hL => seqB_ready hL.1) l.length listed a inv (Region.free_spec h0 hf) hr' hy ?_
    refine anyH_lex hsel hs hc hn l (k + 1) _ _ (fun j hj => ?_) (by simp only [List.length_cons] at hk; omega) (inv.set hr' hkn) hB' hK
    have := hl (j + 1) (by simp; omega)
    simpa [Nat.add_assoc, Nat.add_comm 1 j] using this
/-- A list of operations, with an outer end that speaks of all exits. -/
theorem WL.all {l : List Oper} {Q : Exit → Fr → World → Prop} (h : WL P N ops l (fun f w => Q .normal f w) f w) : wpList P ops (fun e a w' => ∃ f', a = act N f' ∧ Q e f' w') l (act N f) w := by
  have key : ∀ (l : List Oper) (a : Act) (w : World), wpList P ops (fun e a w' => ∃ f', a = act N f' ∧ e = .normal ∧ Q .normal f' w') l a w → wpList P ops (fun e a w' => ∃ f', a = act N f' ∧ Q e f' w') l a w := by
    intro l
    induction l with
    | nil => intro a w ⟨f', ha, _, q⟩; exact ⟨f', ha, q⟩
    | cons o rest ih =>
      intro a w h
      unfold wpList at h ⊢
      split
      · rename_i hw
        rw [if_pos hw] at h
        rcases h with h | ⟨_, a0, w0, f0, _, hc, _⟩
        · refine .inl (Oper.wp_monoQ (fun a w hk => ih _ _ hk) (fun e a w hne ⟨f', ha, he, _⟩ => absurd he hne) h)
        · cases hc
      · rename_i hw
        rw [if_neg hw] at h
        exact ih _ _ h
  exact key _ _ _ h.out
theorem WP.quietTail {id : Nat} {l : List Oper} {Q : Exit → Fr → World → Prop} (n : Nat) (S : St w0 H0 w H L) (hm : P.follows .mixedOrders = true) (hB : Region.lexTailB .any l.toArray n = true)
    (h : WQ P N l.toArray (Cl w0 H0 H L) (l.take n) (fun f' => ∀ w' H', H.le H' → St w0 H0 w' H' L → WL P N l.toArray (l.drop n) (fun f w => Q .normal f w) f' w') f) : WP P N (.region id l.toArray true) Q f w := by
  simp only [Region.lexTailB, Bool.and_eq_true, decide_eq_true_eq] at hB
  obtain ⟨⟨⟨⟨hsel, hn⟩, hs⟩, hc⟩, hlex⟩ := hB
  have hn' : n < l.length := by simpa using hn
  have htl : (l.take n).length = n := by simp; omega
  have hdl : (l.drop n).length = l.toArray.size - n := by simp
  have inv0 : HeadInv .any l.toArray n (Array.replicate l.toArray.size false) :=
    ⟨by simp, fun j oj _ hl => (by rw [getD_replicate_false] at hl; cases hl), fun t _ ht => getD_in (by simpa using ht) (getD_replicate_false _ _)⟩
  have hh := anyH_lex (P := P) (C := Cl w0 H0 H L) (md := .any) (m := l.toArray.size - n) hsel hs hc hn (l.take n) 0 _ (act N f) (fun j hj => by
    have hj' : j < n := by rw [htl] at hj; exact hj
    simp [hj']) (by simpa using htl) inv0 (by rw [htl]; exact hlex) h.out
  refine wp_region_any hm ?_
  have := anyH_any (m := l.toArray.size - n) (Q' := fun e a w' => ∃ f', a = act N f' ∧ Q e f' w') (fun listed a' w' hw' hL => by
    obtain ⟨H', hle, S'⟩ := hw'
    obtain ⟨f', ha, hq⟩ := hL.2
    subst ha
    have := wpAny_of_seq (md := .any) (Q' := fun e a w' => ∃ f', a = act N f' ∧ Q e f' w') (l.drop n) n listed (act N f') w' (fun j => by simp [List.getElem?_drop]) (by rw [hdl]; exact hL.1) (WL.all (hq w' H' hle S'))
    rwa [hdl] at this) _ _ _ w.drew ⟨H, Hp.le.refl _, S.drew⟩ hh
  rw [htl, show n + (l.toArray.size - n) = l.toArray.size by omega] at this
  exact this
end
end Go.Eng

/- The engine, part 15: a row of one's own is turned in place: sorted, made compact; slices cut in a region that draws and writes. -/
namespace Go.Eng
open Go Go.RowKit
section
variable {P : Program} {N : Nat} {f : Fr} {w w' w0 : World} {H0 H : Hp} {L : List Ent} {ops : Array Oper} {rest : List Oper} {Q : Fr → World → Prop} {d : Nat} {od : Option Nat} {ty : TypeId} {pos : String} {af : Array Edge}
/-- slices.Sort at []string. -/
structure SortCon (P : Program) (k : FuncId) : Prop where
  enter : ∀ (args : Array Value) (w : World), (callFunc k args).run P w = .ok (.enter k args) w
  none : ∀ (p : Option Addr) (cap : Nat) (w : World), Calls P k #[.slice p 0 cap] w fun e w' => e = .returned (.tuple #[]) ∧ w' = w
  some : ∀ (blk off cap : Nat) (ss : List Str) (w : World), Sort.Holds Proofs.encStr w blk off ss.toArray → blk < w.heap.size → ss.length < 4611686018427387904 →
    Calls P k #[.slice (some ⟨blk, off, .none⟩) ss.length cap] w fun e w' => e = .returned (.tuple #[]) ∧ ∃ n os, w' = Sort.grow (Sort.putRow Proofs.encStr (Sort.ahead w n) blk off (ss.mergeSort fun x y => decide (x ≤ y)).toArray) os
/-- slices.Compact at []string. -/
structure CompactCon (P : Program) (k : FuncId) : Prop where
  enter : ∀ (args : Array Value) (w : World), (callFunc k args).run P w = .ok (.enter k args) w
  none : ∀ (a : Option Addr) (cap : Nat) (w : World), Calls P k #[.slice a 0 cap] w fun e w' => e = .returned (.slice a 0 cap) ∧ w' = w
  some : ∀ (blk off cap : Nat) (zs : List Str) (w : World), Sort.Holds Proofs.encStr w blk off zs.toArray → zs.length ≤ 9223372036854775807 → zs.length ≤ cap →
    Calls P k #[.slice (some ⟨blk, off, .none⟩) zs.length cap] w fun e w' => e = .returned (.slice (some ⟨blk, off, .none⟩) (Lib.compact zs).length cap) ∧ ∃ q, w' = Sort.putRow Proofs.encStr (Sort.ahead w q) blk off (Lib.compact zs ++ List.replicate (zs.length - (Lib.compact zs).length) []).toArray
/-! slices cut in a region that draws and writes -/
section
variable {n : Nat} {listed : Array Bool}
theorem WA.sub {α : Type} [Enc α] {T e : TypeId} {k : Nat} {x i j : Operand} {v : Value} {xs ys : List α} {m1 m : Int} (listed' : Array Bool) (hi' : ops[k]? = some ⟨some d, .slice T x (some i) (some j) none, ty, pos, af, none⟩) (hs : Region.noSelect ops = true) (hf : Region.free .any ops listed k = true)
    (hr : (Region.ready .any ops listed).contains k = true) (hl : listed.setIfInBounds k true = listed') (hR : Sl H v xs) (hx : ev N f x = v) (hi : ev N f i = int m1) (hj : ev N f j = int m) (hE : Elem P T e (Enc.sz α)) (h : xsub xs m1 m = some ys)
    (K : ∀ v', Sl H v' ys → WA P N ops n listed' Q (upd f d v') w) : WA P N ops (n + 1) listed Q f w := by
  obtain ⟨a, c, rfl, h1, h2, h3⟩ := hR
  have hs2 := Sl.sub (⟨a, c, rfl, h1, h2, h3⟩) h
  refine WA.take listed' hi' hs hf hr hl (fun w => ?_) (K _ hs2)
  obtain ⟨ht, inf, z, hinf, _, hsize, _⟩ := hE
  unfold xsub at h
  split at h
  case isFalse => cases h
  rename_i h0
  have g1 : 0 ≤ m ∧ m ≤ (c : Int) := ⟨by omega, by omega⟩
  simp [execOp, Instr.sliceAt, Instr.slice, Instr.sliceBounds, Instr.sliceBound, asIntOf, hx, hi, hj, int, run_underlying ht, g1, h0.1, sizeOf, typeInfo, hinf, hsize]
  intro hc; omega
/-- Two operations may come next: each of them is gone through. -/
theorem WA.two {i j : Nat} {o o' : Oper} (l1 l2 : Array Bool) (hi : ops[i]? = some o) (hj : ops[j]? = some o') (hr : Region.ready .any ops listed = [i, j]) (h1 : listed.setIfInBounds i true = l1) (h2 : listed.setIfInBounds j true = l2)
    (k1 : WL P N ops [o] (fun f' w' => WA P N ops n l1 Q f' w') f w) (k2 : WL P N ops [o'] (fun f' w' => WA P N ops n l2 Q f' w') f w) : WA P N ops (n + 1) listed Q f w := by
  subst h1; subst h2
  refine wpAny_all hr (by simp) fun q hq => ?_
  have key : ∀ (q : Nat) (o : Oper), ops[q]? = some o → WL P N ops [o] (fun f' w' => WA P N ops n (listed.setIfInBounds q true) Q f' w') f w → wpOp P ops (fun e a w' => ∃ f', a = act N f' ∧ e = .normal ∧ Q f' w') q (wpAny P .any ops (fun e a w' => ∃ f', a = act N f' ∧ e = .normal ∧ Q f' w') n (listed.setIfInBounds q true)) (act N f) w := by
    intro q o hq h
    unfold wpOp
    rw [hq]
    have h' : wpList P ops (fun e a w' => ∃ f', a = act N f' ∧ e = .normal ∧ WA P N ops n (listed.setIfInBounds q true) Q f' w') [o] (act N f) w := h.out
    unfold wpList at h'
    show if Region.wanted o (yielded ops (act N f).tmps) = true then _ else _
    split
    · rename_i hw
      rw [if_pos hw] at h'
      rcases h' with h' | ⟨_, a0, w0, f0, _, he, _⟩
      · refine .inl (Oper.wp_monoQ (fun a w hk => ?_) (fun e a w hne ⟨f', ha, he, _⟩ => absurd he hne) h')
        obtain ⟨f', ha, _, hq⟩ := hk
        subst ha; exact hq
      · cases he
    · rename_i hw
      rw [if_neg hw] at h'
      obtain ⟨f', ha, _, hq⟩ := h'
      rw [ha]; exact hq
  rcases List.mem_cons.1 hq with rfl | hq
  · exact key _ _ hi k1
  · rcases List.mem_singleton.1 hq with rfl
    exact key _ _ hj k2
end
end
end Go.Eng

/- The engine, part 16: numbers written in decimal; what lies laid in the world. -/
namespace Go.Eng
open Go Go.RowKit
/-- An int in decimal. -/
def strconv_Itoa (n : Int) : Option Str := if -9223372036854775808 ≤ n ∧ n ≤ 9223372036854775807 then some (Lib.itoa n) else none
theorem below_grow' (w : World) (k : Nat) (os : Array Obj) : Below w.heap.size w (Sort.grow (w.drewN k) os) :=
  ⟨rfl, rfl, rfl, by show w.heap.size ≤ (w.heap ++ os).size; rw [Array.size_append]; omega, fun j hj => by
    show (w.heap ++ os)[j]? = w.heap[j]?
    rw [Array.getElem?_append_left hj]⟩
theorem itoaCon {P : Program} {k : FuncId} {fn : Func} {c : Code} {w : World} {H : Hp} {n : Int} {r : Str} (hf : P.funcs[k]? = some fn) (hb : fn.body = some c) (hname : (fn.name == "runtime.NumGoroutine") = false) (hw : Holds w H)
    (htab : Lib.TabIs P w "internal/strconv.uint64pow10" .u64 Lib.pow10Tab) (h : strconv_Itoa n = some r)
    (hc : ∀ (n : Int), -9223372036854775808 ≤ n → n ≤ 9223372036854775807 → ∀ (w : World), Lib.TabIs P w "internal/strconv.uint64pow10" .u64 Lib.pow10Tab →
      Calls P k #[.int .i64 n] w fun e w' => e = .returned (.string ⟨(Lib.itoa n).toArray⟩) ∧ ∃ k os, w' = Sort.grow (w.drewN k) os) :
    Con P k [int n] w H (fun _ u => u = str r) := by
  unfold strconv_Itoa at h
  split at h
  case isFalse => cases h
  rename_i h0
  simp only [Option.some.injEq] at h
  subst h
  refine Con.of_calls hf hb hname hw (Calls.mono (hc n h0.1 h0.2 w htab) fun _ _ ⟨he, q, os, hp⟩ => ⟨he, ?_⟩)
  subst hp
  exact below_grow' w q os
/-- What a variable of the program's own reads stays as it is, in a call. -/
theorem var_stays {P : Program} {w w' : World} {g : Nat} {n : String} {cs : Array Value} {B : Nat} (hg : P.globalNamed n = some g) (h : w.var? P n = some cs) (hb : Below B w w') (hB : g < B) : w'.var? P n = some cs := by
  unfold World.var? at *
  rw [hg] at h ⊢
  simp only [Option.bind_some] at h ⊢
  rw [hb.block g hB]; exact h
theorem var_lt {P : Program} {w : World} {g : Nat} {n : String} {cs : Array Value} (hg : P.globalNamed n = some g) (h : w.var? P n = some cs) : g < w.heap.size := by
  unfold World.var? at h
  rw [hg] at h
  simp only [Option.bind_some] at h
  cases hh : w.heap[g]? with
  | none => rw [hh] at h; cases h
  | some o => exact (Array.getElem?_eq_some_iff.1 hh).1
theorem tab_post {P : Program} {w0 w : World} {H0 H : Hp} {g : Nat} {n : String} {k : IntKind} {zs : List Int} (hg : P.globalNamed n = some g) (h : Lib.TabIs P w0 n k zs) (p : Post w0 H0 w H) : Lib.TabIs P w n k zs :=
  var_stays hg h p.below (var_lt hg h)
/-- From the row's condition to a variable's cells: whichever stands on the list. -/
theorem tabIs_of_mem {P : Program} {W : World} {name : String} {k : IntKind} {zs : List Int} {l : List (String × DataW Unit)} {g : Nat} {t e : TypeId} {n : Nat} (hm : (name, Lib.tabData k zs) ∈ l)
    (hg : P.globalNamed name = some g) (hty : (P.globals[g]?).map (·.type) = some t) (ht : P.underlying t = some (.array n e)) (he : P.underlying e = some (.int k)) (hce : P.cellsOf e = 1) (hct : P.cellsOf t = n)
    (h : laidMet P l W) : Lib.TabIs P W name k zs := by
  obtain ⟨ps, hl, _⟩ := h
  have key : ∀ (l : List (String × DataW Unit)) (ps : List MemPlace), (name, Lib.tabData k zs) ∈ l → DataW.LaidVars P W l ps → ∃ ps', DataW.LaidVars P W [(name, Lib.tabData k zs)] ps' := by
    intro l
    induction l with
    | nil => intro ps hm; cases hm
    | cons x l ih =>
      intro ps hm hl
      obtain ⟨nm, d⟩ := x
      obtain ⟨g, t, cs, fuel, p, q, h1, h2, h3, h4, h5, rfl⟩ := hl
      rcases List.mem_cons.1 hm with hm | hm
      · cases hm
        exact ⟨_, g, t, cs, fuel, p, [], h1, h2, h3, h4, rfl, rfl⟩
      · exact ih q hm h5
  obtain ⟨ps', hl'⟩ := key l ps hm hl
  obtain ⟨g', t', cs, fuel, p, q, hg', ht', hvar, hd, _, _⟩ := hl'
  obtain rfl := Option.some.inj (hg.symm.trans hg')
  obtain rfl := Option.some.inj (hty.symm.trans ht')
  unfold Lib.TabIs
  rw [hvar, ← Lib.cells_of_tab ht he hce hct hd]
end Go.Eng

/- The engine, part 17: calls that write what the caller owns. -/
namespace Go.Eng
open Go Go.RowKit
/-- A call that may write what the caller has of its own: what else the caller has (L2) is kept. -/
def ConS (P : Program) (k : FuncId) (args : List Value) (w0 : World) (H0 : Hp) (w : World) (H : Hp) (L2 : List Ent) (R : Hp → Value → List Ent → Prop) : Prop :=
  (∀ w, (callFunc k args.toArray).run P w = .ok (.enter k args.toArray) w) ∧
  Calls P k args.toArray w (fun e w' => ∃ v H' L', e = .returned v ∧ H.le H' ∧ St w0 H0 w' H' (L' ++ L2) ∧ R H' v L')
/-- The end of such a function. -/
def OutS (P : Program) (fn : Func) (N : Nat) (w0 : World) (H0 H : Hp) (L2 : List Ent) (R : Hp → Value → List Ent → Prop) : Exit → Fr → World → Prop := fun e f w =>
  (e = .ret ∨ e = .normal) ∧ ∃ v, (results fn (tm N f)).run P w = .ok v w ∧ ∃ H' L', H.le H' ∧ St w0 H0 w H' (L' ++ L2) ∧ R H' v L'
section
variable {P : Program} {N : Nat} {f : Fr} {w w1 w0 : World} {H0 H1 H : Hp} {L L2 L' : List Ent} {ops : Array Oper} {rest : List Oper} {Q : Fr → World → Prop} {d : Nat} {od : Option Nat} {ty : TypeId} {pos : String} {af : Array Edge} {g : Option (Nat × Bool)}
theorem ConS.mk {fn : Func} {c : Code} {k : FuncId} {args : List Value} {R : Hp → Value → List Ent → Prop} (hf : P.funcs[k]? = some fn) (hb : fn.body = some c) (hn : fn.ntmps = N) (hname : (fn.name == "runtime.NumGoroutine") = false)
    (hsz : Nat.ble args.length N = true) (h : WP P N c (OutS P fn N w0 H0 H L2 R) (init args) w) : ConS P k args w0 H0 w H L2 R := by
  refine ⟨fun w => ?_, ?_⟩
  · simp only [callFunc, Sem.run_bind, run_program, Result.andThen_ok, hf, hname, hb]
    rfl
  · refine calls_of_wp hf hb ?_
    have hle : args.length ≤ N := Nat.le_of_ble_eq_true hsz
    have e : ({ tmps := args.toArray ++ Array.replicate (fn.ntmps - args.toArray.size) undef, defers := [] } : Act) = act N (init args) := by
      simp only [act]
      congr 1
      apply Array.ext_getElem?
      intro t
      rw [tm_get, hn, Array.getElem?_append]
      simp only [List.size_toArray, List.getElem?_toArray, init, List.getD_eq_getElem?_getD]
      by_cases h1 : t < args.length
      · simp [h1, show t < N from by omega]
      · simp only [h1, if_false]
        rw [Array.getElem?_replicate]
        by_cases h2 : t < N
        · rw [if_pos (by omega), if_pos h2, List.getElem?_eq_none (by omega)]; rfl
        · rw [if_neg (by omega), if_neg h2]
    rw [e]
    refine Code.wp_mono (fun e a w' ⟨f', ha, he, v, hv, H', L', hle, hS, hr⟩ => ?_) h
    subst ha
    rcases he with rfl | rfl
    · exact ⟨rfl, v, hv, v, H', L', rfl, hle, hS, hr⟩
    · exact ⟨rfl, v, hv, v, H', L', rfl, hle, hS, hr⟩
/-- Such a call, of a function by its name. -/
theorem W.callS {k : FuncId} {xs : List Operand} {ats : Array TypeId} {args : List Value} {R : Hp → Value → List Ent → Prop} (ha : xs.map (ev N f) = args) (C : ConS P k args w0 H0 w H L2 R)
    (K : ∀ v w' H' L', H.le H' → St w0 H0 w' H' (L' ++ L2) → R H' v L' → WL P N ops rest Q (updo f od v) w') : WL P N ops (⟨od, .call ⟨.value (.func k), xs.toArray, ats⟩, ty, pos, af, none⟩ :: rest) Q f w := by
  refine WL.enterw (w' := w) (k := k) (args := args.toArray) ?_ (Calls.mono C.2 fun e w' ⟨v, H', L', he, hp, hS, hv⟩ => ⟨v, he, K v w' H' L' hp hS hv⟩)
  have : (execOp (ev N f) ⟨od, .call ⟨.value (.func k), xs.toArray, ats⟩, ty, pos, af, none⟩) = callFunc k (#[] ++ xs.toArray.map (ev N f) ++ #[]) := rfl
  rw [this]
  have e : (#[] ++ xs.toArray.map (ev N f) ++ #[]) = args.toArray := by simp [ha]
  rw [e]
  exact C.1 w
theorem run_results0 {fn : Func} (hr : fn.results = #[]) (tmps : Array Value) : (results fn tmps).run P w = .ok (.tuple #[]) w := by
  rw [results_eq, hr]
  simp only [List.mapM_toArray, List.mapM_nil, Sem.run_bind, Sem.run_map, Sem.run_pure, Result.andThen_ok]
  rfl
theorem OutS.zero {fn : Func} {R : Hp → Value → List Ent → Prop} {e : Exit} (he : e = .ret ∨ e = .normal) (hr : fn.results = #[]) (hle : H1.le H) (S : St w0 H0 w H (L' ++ L2)) (hR : R H (.tuple #[]) L') : OutS P fn N w0 H0 H1 L2 R e f w :=
  ⟨he, _, run_results0 hr _, H, L', hle, S, hR⟩
theorem OutS.one {fn : Func} {r : ResultVar} {v : Value} {R : Hp → Value → List Ent → Prop} (hr : fn.results = #[r]) (hle : H1.le H) (S : St w0 H0 w H (L' ++ L2)) (h : Res P N f w r v) (hR : R H v L') : OutS P fn N w0 H0 H1 L2 R .ret f w := by
  refine ⟨.inl rfl, v, ?_, H, L', hle, S, hR⟩
  have := run_resultVar h
  rw [results_eq, hr]
  simp only [List.mapM_toArray, List.mapM_cons, List.mapM_nil, Sem.run_bind, Sem.run_map, this, Result.andThen_ok, Sem.run_pure]
  rfl
theorem OutS.two {fn : Func} {r1 r2 : ResultVar} {v1 v2 : Value} {R : Hp → Value → List Ent → Prop} (hr : fn.results = #[r1, r2]) (hle : H1.le H) (S : St w0 H0 w H (L' ++ L2)) (h1 : Res P N f w r1 v1) (h2 : Res P N f w r2 v2) (hR : R H (.tuple ⟨[v1, v2]⟩) L') : OutS P fn N w0 H0 H1 L2 R .ret f w := by
  refine ⟨.inl rfl, _, ?_, H, L', hle, S, hR⟩
  have h1 := run_resultVar h1
  have h2 := run_resultVar h2
  rw [results_eq, hr]
  simp only [List.mapM_toArray, List.mapM_cons, List.mapM_nil, Sem.run_bind, Sem.run_map, h1, h2, Result.andThen_ok, Sem.run_pure]
  rfl
theorem OutS.three {fn : Func} {r1 r2 r3 : ResultVar} {v1 v2 v3 : Value} {R : Hp → Value → List Ent → Prop} (hr : fn.results = #[r1, r2, r3]) (hle : H1.le H) (S : St w0 H0 w H (L' ++ L2)) (h1 : Res P N f w r1 v1) (h2 : Res P N f w r2 v2) (h3 : Res P N f w r3 v3) (hR : R H (.tuple ⟨[v1, v2, v3]⟩) L') : OutS P fn N w0 H0 H1 L2 R .ret f w := by
  refine ⟨.inl rfl, _, ?_, H, L', hle, S, hR⟩
  have h1 := run_resultVar h1
  have h2 := run_resultVar h2
  have h3 := run_resultVar h3
  rw [results_eq, hr]
  simp only [List.mapM_toArray, List.mapM_cons, List.mapM_nil, Sem.run_bind, Sem.run_map, h1, h2, h3, Result.andThen_ok, Sem.run_pure]
  rfl
theorem OutS.four {fn : Func} {r1 r2 r3 r4 : ResultVar} {v1 v2 v3 v4 : Value} {R : Hp → Value → List Ent → Prop} (hr : fn.results = #[r1, r2, r3, r4]) (hle : H1.le H) (S : St w0 H0 w H (L' ++ L2)) (h1 : Res P N f w r1 v1) (h2 : Res P N f w r2 v2) (h3 : Res P N f w r3 v3) (h4 : Res P N f w r4 v4) (hR : R H (.tuple ⟨[v1, v2, v3, v4]⟩) L') : OutS P fn N w0 H0 H1 L2 R .ret f w := by
  refine ⟨.inl rfl, _, ?_, H, L', hle, S, hR⟩
  have h1 := run_resultVar h1
  have h2 := run_resultVar h2
  have h3 := run_resultVar h3
  have h4 := run_resultVar h4
  rw [results_eq, hr]
  simp only [List.mapM_toArray, List.mapM_cons, List.mapM_nil, Sem.run_bind, Sem.run_map, h1, h2, h3, h4, Result.andThen_ok, Sem.run_pure]
  rfl
/-- A function that returns nothing: the plain contract. -/
theorem Out.zero {fn : Func} {R : Hp → Value → Prop} {e : Exit} (he : e = .ret ∨ e = .normal) (hr : fn.results = #[]) (S : St w0 H0 w H L) (hR : R H (.tuple #[])) : Out P fn N w0 H0 R e f w :=
  ⟨he, _, run_results0 hr _, H, S.post, hR⟩
/-- One of the things is put first. -/
theorem St.front (S : St w0 H0 w H L) (i : Nat) {e : Ent} (hi : L[i]? = some e) : St w0 H0 w H (e :: L.eraseIdx i) := by
  have hm := List.mem_of_getElem? hi
  refine ⟨S.post, ?_, ?_, ?_⟩
  · intro x hx
    rcases List.mem_cons.1 hx with rfl | hx
    · exact S.ents _ hm
    · exact S.ents _ ((List.eraseIdx_sublist _ _).subset hx)
  · intro x hx
    rcases List.mem_cons.1 hx with rfl | hx
    · exact S.own _ hm
    · exact S.own _ ((List.eraseIdx_sublist _ _).subset hx)
  · have hp : ∀ (L : List Ent) (i : Nat), L[i]? = some e → List.Perm (e :: L.eraseIdx i) L := by
      intro L
      induction L with
      | nil => intro i hi; simp at hi
      | cons x L ih =>
        intro i hi
        cases i with
        | zero => simp at hi; subst hi; simp
        | succ i =>
          simp at hi
          rw [List.eraseIdx_cons_succ]
          exact (List.Perm.swap x e _).trans ((ih i hi).cons x)
    exact ((hp L i hi).filterMap Ent.blk).nodup_iff.2 S.nodup
end
end Go.Eng

/- The engine, part 18: bits. -/
namespace Go.Eng
open Go
/-- '&' of ints. -/
def iand (a b : Int) : Int := IntKind.wrap .i64 ((BitVec.ofInt 64 a &&& BitVec.ofInt 64 b).toNat : Int)
section
variable {P : Program} {N : Nat} {f : Fr} {w : World} {d : Option Nat} {ty : TypeId} {pos : String} {af : Array Edge} {g : Option (Nat × Bool)}
theorem R.and {x y : Operand} {a b : Int} {T T' : TypeId} (hx : ev N f x = int a) (hy : ev N f y = int b) : (execOp (ev N f) ⟨d, .binOp .and T x y T', ty, pos, af, g⟩).run P w = .ok (.value (int (iand a b))) w := by
  simp [execOp, eqGuard, hx, hy, int, binOp, Op.intBits, iand]
  rfl
end
end Go.Eng

/- The engine, part 19: slices that are put into cells; fields. -/
namespace Go.Eng
open Go
section
variable {P : Program} {N : Nat} {f : Fr} {w w0 : World} {H0 H : Hp} {L : List Ent} {ops : Array Oper} {rest : List Oper} {Q : Fr → World → Prop} {d : Nat} {od : Option Nat} {ty : TypeId} {pos : String} {af : Array Edge}
theorem W.storeSl {α : Type} [Enc α] {T T' : TypeId} {a x : Operand} {b o i : Nat} {bb : Bool} {u : Value} {xs : List α} {cs : List Value} (cs' : List Value) (S : St w0 H0 w H L) (R : Sl H u xs) (ha : ev N f a = ptr b o) (hx : ev N f x = u) (hi : L[i]? = some (.box b T' cs)) (hT : lay P T = some (bb, 1))
    (ho : o + 1 ≤ cs.length) (hc : splice cs o [u] = cs')
    (k : ∀ w', St w0 H0 w' H (L.set i (.box b T' cs')) → WL P N ops rest Q (updo f od undef) w') : WL P N ops (⟨od, .store T a x, ty, pos, af, none⟩ :: rest) Q f w :=
  W.store cs' S ha hx hi hT (by rw [Sl.cellsOne R]; rfl) (by rw [Sl.cellsOne R]; simp [Sl.oneC R]) ho (by rw [Sl.cellsOne R]; exact hc) k
end
end Go.Eng

/- The engine, part 20: regions that draw their order: what only reads is taken first, in a class of worlds. -/
namespace Go.Eng
open Go
variable {P : Program} {md : Region.Mode} {ops : Array Oper} {Q : Exit → Act → World → Prop} {C : World → Prop}
/-- 'wpAny', and every world on the way is of the class C. -/
def wpAnyC (P : Program) (md : Region.Mode) (ops : Array Oper) (C : World → Prop) (Q : Exit → Act → World → Prop) : Nat → Array Bool → Act → World → Prop
  | 0, listed, a, w => C w ∧ Region.ready md ops listed = [] ∧ Q .normal a w
  | n + 1, listed, a, w => C w ∧ (Region.ready md ops listed = [] → Q .normal a w) ∧
      ∀ i ∈ Region.ready md ops listed, wpOp P ops Q i (wpAnyC P md ops C Q n (listed.setIfInBounds i true)) a w
theorem wpAnyC.cls : ∀ {n : Nat} {listed : Array Bool} {a : Act} {w : World}, wpAnyC P md ops C Q n listed a w → C w
  | 0, _, _, _, h => h.1
  | _ + 1, _, _, _, h => h.1
theorem wpAnyC.any : ∀ {n : Nat} {listed : Array Bool} {a : Act} {w : World}, wpAnyC P md ops C Q n listed a w → wpAny P md ops Q n listed a w
  | 0, _, _, _, h => h.2
  | _ + 1, _, _, _, h => ⟨h.2.1, fun i hi => wpOp_mono (fun _ _ h => wpAnyC.any h) (h.2.2 i hi)⟩
def YieldsC (P : Program) (ops : Array Oper) (C : World → Prop) (o : Oper) (v : Value) (a : Act) : Prop :=
  (Region.wanted o (yielded ops a.tmps) = true ∧ ∀ w, C w → (execOp a.eval o).run P w = .ok (.value v) w) ∨
  (Region.wanted o (yielded ops a.tmps) = false ∧ v = undef)
theorem YieldsC.wpOp {i : Nat} {o : Oper} {v : Value} {a : Act} (hi : ops[i]? = some o) (hy : YieldsC P ops C o v a)
    {K : Act → World → Prop} {w : World} (hC : C w) (h : K (a.put o.dst v) w) : wpOp P ops Q i K a w := by
  unfold Go.wpOp
  simp only [hi]
  rcases hy with ⟨hw, hv⟩ | ⟨hw, rfl⟩
  · simp only [hw, if_true, Oper.wp, hv w hC, Oper.upon]; exact .inl h
  · simp only [hw, Bool.false_eq_true, if_false]; exact h
theorem YieldsC.of_same {o : Oper} {v : Value} {a a' : Act} (hy : YieldsC P ops C o v a) (he : execOp a'.eval o = execOp a.eval o)
    (hw : Region.wanted o (yielded ops a'.tmps) = Region.wanted o (yielded ops a.tmps)) : YieldsC P ops C o v a' := by
  unfold YieldsC at *
  rw [he, hw]
  exact hy
theorem wpOp_putC {j : Nat} {oi oj : Oper} {v : Value} (hj : ops[j]? = some oj) (hap : oi.apart ops oj = true)
    (hsi : ∀ cs b, oi.op ≠ .select cs b) (hsj : ∀ cs b, oj.op ≠ .select cs b)
    (hQ : ∀ c a w, Q (.panic c) (a.put oi.dst v) w → Q (.panic c) a w) {K : Act → World → Prop} {a : Act} {w : World}
    (hy : YieldsC P ops C oi v a) (h : wpOp P ops Q j K (a.put oi.dst v) w) :
    wpOp P ops Q j (fun a' w' => YieldsC P ops C oi v a' ∧ K (a'.put oi.dst v) w') a w := by
  obtain ⟨h1, h2, h3⟩ := Oper.apart_spec hap
  have keep : ∀ (a : Act), YieldsC P ops C oi v a → ∀ u, YieldsC P ops C oi v (a.put oj.dst u) := fun a hy u =>
    hy.of_same (execOp_put oi hsi a oj.dst u h3) (wanted_put oi a oj.dst u h3)
  have keepD : ∀ d, YieldsC P ops C oi v { a with defers := d :: a.defers } := fun d => hy.of_same rfl rfl
  unfold wpOp at *
  simp only [hj] at *
  rw [wanted_put oj a oi.dst v h1] at h
  split
  · rename_i hw
    simp only [hw, if_true] at h
    rcases h with h | ⟨hasks, hlets⟩
    case inr => exact .inr ⟨by unfold Oper.asks at *; rw [execOp_put oj hsj a oi.dst v h1] at hasks; exact hasks, hlets⟩
    refine .inl ?_
    unfold Oper.wp at *
    rw [execOp_put oj hsj a oi.dst v h1] at h
    generalize (execOp a.eval oj).run P w = r at *
    cases r with
    | ok n w' =>
      cases n <;> simp only [Oper.upon] at h ⊢
      case value u => exact ⟨keep a hy u, by rw [← Act.put_comm a v u h2]; exact h⟩
      case skip => exact ⟨keep a hy _, by rw [← Act.put_comm a v undef h2]; exact h⟩
      case defer d =>
        refine ⟨keep _ (keepD d) _, ?_⟩
        rw [← Act.put_comm _ v undef h2, ← Act.put_defers]
        exact h
      case enter f args =>
        refine Calls.mono h fun e w'' he => ?_
        cases e with
        | returned u => exact ⟨keep a hy u, by rw [← Act.put_comm a v u h2]; exact he⟩
        | panicked c => exact hQ _ _ _ he
        | outgrown => exact he
      case row row args => exact Rows.mono h fun u w'' he => ⟨keep a hy u, by rw [← Act.put_comm a v u h2]; exact he⟩
    | halt x w' =>
      cases x <;> simp only [Oper.upon] at h ⊢
      case panic u => exact hQ _ _ _ h
  · rename_i hw
    simp only [hw] at h
    exact ⟨keep a hy _, by rw [← Act.put_comm a v undef h2]; exact h⟩
theorem wpAnyC_first {i : Nat} {oi : Oper} {v : Value} (hi : ops[i]? = some oi) (hsel : ∀ (j : Nat) (o : Oper) cs b, ops[j]? = some o → o.op ≠ .select cs b)
    (hQ : ∀ c a w, Q (.panic c) (a.put oi.dst v) w → Q (.panic c) a w) :
    ∀ (fuel : Nat) (listed : Array Bool) (a : Act) (w : World),
      (∀ j oj, ops[j]? = some oj → j ≠ i → listed.getD j true = false → (∀ e ∈ oj.after, Region.binds md e = true → e.on ≠ i) → oi.apart ops oj = true) →
      i ∈ Region.ready md ops listed → YieldsC P ops C oi v a →
      wpAnyC P md ops C Q fuel (listed.setIfInBounds i true) (a.put oi.dst v) w → wpAnyC P md ops C Q (fuel + 1) listed a w := by
  intro fuel
  induction fuel with
  | zero =>
    intro listed a w _ hr hy H
    refine ⟨H.cls, fun h => (by rw [h] at hr; cases hr), fun j hj => ?_⟩
    by_cases hji : j = i
    · subst hji; exact hy.wpOp hi H.cls H
    · have := ready_mono hj hji
      rw [H.2.1] at this
      cases this
  | succ fuel ih =>
    intro listed a w hfree hr hy H
    refine ⟨H.cls, fun h => (by rw [h] at hr; cases hr), fun j hj => ?_⟩
    by_cases hji : j = i
    · subst hji; exact hy.wpOp hi H.cls H
    · have h1 := H.2.2 j (ready_mono hj hji)
      obtain ⟨hjun, oj, hoj, hall⟩ := mem_ready.1 hj
      have hnot : ∀ e ∈ oj.after, Region.binds md e = true → e.on ≠ i := fun e he hb heq => by
        have h1 := hall e he hb
        have h0 := (mem_ready.1 hr).1
        rw [heq] at h1
        rcases Nat.lt_or_ge i listed.size with h' | h'
        · simp [h'] at h0 h1; rw [h0] at h1; cases h1
        · simp [Array.getElem?_eq_none h'] at h1
      have h2 := wpOp_putC hoj (hfree j oj hoj hji hjun hnot) (fun cs b => hsel i oi cs b hi) (fun cs b => hsel j oj cs b hoj) hQ hy h1
      have hfree' : ∀ k ok, ops[k]? = some ok → k ≠ i → (listed.setIfInBounds j true).getD k true = false →
          (∀ e ∈ ok.after, Region.binds md e = true → e.on ≠ i) → oi.apart ops ok = true := fun k ok hk hki hun hno => by
        refine hfree k ok hk hki ?_ hno
        by_cases hjk : j = k
        · subst hjk; exact hjun
        · rw [getD_set_ne true hjk] at hun; exact hun
      refine wpOp_mono (fun a' w' h3 => ih (listed.setIfInBounds j true) a' w' hfree' (ready_mono hr (Ne.symm hji)) h3.1 ?_) h2
      rw [Array.setIfInBounds_comm _ _ hji]
      exact h3.2
/-- The judgement. -/
structure WC (P : Program) (N : Nat) (ops : Array Oper) (C : World → Prop) (n : Nat) (listed : Array Bool) (Q : Fr → World → Prop) (f : Fr) (w : World) : Prop where
  out : wpAnyC P .any ops C (fun e a w' => ∃ f', a = act N f' ∧ e = .normal ∧ Q f' w') n listed (act N f) w
section
variable {N : Nat} {f : Fr} {w w0 : World} {H0 H : Hp} {L : List Ent} {Q : Fr → World → Prop} {n : Nat} {listed : Array Bool}
theorem WP.drawC {id : Nat} {Q : Exit → Fr → World → Prop} (C : World → Prop) (hm : P.follows .mixedOrders = true) (m : Nat) (hn : ops.size = m) (l0 : Array Bool) (hl : Array.replicate m false = l0) (h : WC P N ops C m l0 (Q .normal) f w.drew) : WP P N (.region id ops true) Q f w := by
  subst hn; subst hl
  refine wp_region_any hm (wpAny_monoQ (fun e a w ⟨f', ha, he, hq⟩ => ?_) _ _ _ _ h.out.any)
  subst he
  exact ⟨f', ha, hq⟩
theorem WC.take {i : Nat} {d : Option Nat} {op : Op} {ty : TypeId} {pos : String} {af : Array Edge} {v : Value} (listed' : Array Bool) (hi : ops[i]? = some ⟨d, op, ty, pos, af, none⟩) (hs : Region.noSelect ops = true) (hf : Region.free .any ops listed i = true)
    (hr : (Region.ready .any ops listed).contains i = true) (hl : listed.setIfInBounds i true = listed') (hrun : ∀ w, C w → (execOp (ev N f) ⟨d, op, ty, pos, af, none⟩).run P w = .ok (.value v) w)
    (h : WC P N ops C n listed' Q (updo f d v) w) : WC P N ops C (n + 1) listed Q f w := by
  subst hl
  refine ⟨wpAnyC_first hi (Region.noSelect_spec hs) (fun c a w ⟨f', _, he, _⟩ => by cases he) n listed _ w (Region.free_spec hi hf) (by simpa using hr) (v := v) (.inl ⟨by simp [Region.wanted], fun w hw => ?_⟩) ?_⟩
  · rw [eval_act']; exact hrun w hw
  · show wpAnyC P .any ops C _ n _ ((act N f).put d v) w
    rw [put_act]; exact h.out
theorem wpOp_of_WL {j : Nat} {o : Oper} {K : Fr → World → Prop} {Q : Fr → World → Prop} (hi : ops[j]? = some o) (h : WL P N ops [o] K f w) : wpOp P ops (fun e a w' => ∃ f', a = act N f' ∧ e = .normal ∧ Q f' w') j (fun a w' => ∃ f', a = act N f' ∧ K f' w') (act N f) w := by
  unfold wpOp
  rw [hi]
  have h' : wpList P ops (fun e a w' => ∃ f', a = act N f' ∧ e = .normal ∧ K f' w') [o] (act N f) w := h.out
  unfold wpList at h'
  show if Region.wanted o (yielded ops (act N f).tmps) = true then _ else _
  split
  · rename_i hw
    rw [if_pos hw] at h'
    rcases h' with h' | ⟨_, a0, w0, f0, _, he, _⟩
    · refine .inl (Oper.wp_monoQ (fun a w hk => ?_) (fun e a w hne ⟨f', ha, he, _⟩ => absurd he hne) h')
      obtain ⟨f', ha, _, hq⟩ := hk
      exact ⟨f', ha, hq⟩
    · cases he
  · rename_i hw
    rw [if_neg hw] at h'
    obtain ⟨f', ha, _, hq⟩ := h'
    exact ⟨f', ha, hq⟩
/-- One of the operations that may come next. -/
def Nxt (P : Program) (N : Nat) (ops : Array Oper) (C : World → Prop) (n : Nat) (listed : Array Bool) (Q : Fr → World → Prop) (f : Fr) (w : World) (i : Nat) : Prop :=
  ∃ o, ops[i]? = some o ∧ WL P N ops [o] (fun f' w' => WC P N ops C n (listed.setIfInBounds i true) Q f' w') f w
theorem WC.next {rs : List Nat} (hC : C w) (hr : Region.ready .any ops listed = rs) (hne : rs ≠ []) (h : ∀ i ∈ rs, Nxt P N ops C n listed Q f w i) : WC P N ops C (n + 1) listed Q f w := by
  subst hr
  refine ⟨hC, fun h0 => absurd h0 hne, fun i hi => ?_⟩
  obtain ⟨o, ho, hw⟩ := h i hi
  refine wpOp_mono (fun a w' ⟨f', ha, hq⟩ => ?_) (wpOp_of_WL (Q := Q) ho hw)
  subst ha; exact hq.out
theorem Nxt.mk {i : Nat} {o : Oper} (listed' : Array Bool) (hi : ops[i]? = some o) (hl : listed.setIfInBounds i true = listed') (h : WL P N ops [o] (fun f' w' => WC P N ops C n listed' Q f' w') f w) : Nxt P N ops C n listed Q f w i := by
  subst hl; exact ⟨o, hi, h⟩
theorem all1 {p : Nat → Prop} {a : Nat} (h : p a) : ∀ i ∈ [a], p i := by intro i hi; rw [List.mem_singleton.1 hi]; exact h
theorem WC.done (hC : C w) (hr : Region.ready .any ops listed = []) (h : Q f w) : WC P N ops C n listed Q f w := by
  refine ⟨?_⟩
  cases n with
  | zero => exact ⟨hC, hr, f, rfl, rfl, h⟩
  | succ n => exact ⟨hC, fun _ => ⟨f, rfl, rfl, h⟩, by rw [hr]; simp⟩
end
end Go.Eng
