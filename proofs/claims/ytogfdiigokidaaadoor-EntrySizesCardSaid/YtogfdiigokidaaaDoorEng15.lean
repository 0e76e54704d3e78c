/- The engine, part 15: a row of one's own is turned in place: sorted, made compact; slices cut in a region that draws and writes. -/
import Derived.Test.YtogfdiigokidaaaDoorEng14
import Derived.Sort.Grow
import Derived.Sort.EncStr
import Derived.Lib.SlicesCompact
namespace Go.Eng
open Go Go.RowKit
section
variable {P : Program} {N : Nat} {f : Fr} {w w' w0 : World} {H0 H : Hp} {L : List Ent} {ops : Array Oper} {rest : List Oper} {Q : Fr → World → Prop} {d : Nat} {od : Option Nat} {ty : TypeId} {pos : String} {af : Array Edge}
/-- slices.Sort at []string. -/
structure SortCon (P : Program) (k : FuncId) : Prop where
  enter : ∀ (args : Array Value) (w : World), (callFunc k args).run P w = .ok (.enter k args) w
  none : ∀ (p : Option Addr) (cap : Nat) (w : World), Calls P k #[.slice p 0 cap] w fun e w' => e = .returned (.tuple #[]) ∧ w' = w
  some : ∀ (blk off cap : Nat) (ss : List Str) (w : World), Sort.Holds Proofs.encStr w blk off ss.toArray → blk < w.heap.size → ss.length < 4611686018427387904 →
    Calls P k #[.slice (some ⟨blk, off, .none⟩) ss.length cap] w fun e w' => e = .returned (.tuple #[]) ∧ ∃ n os, w' = Sort.grow (Sort.putRow Proofs.encStr (Sort.ahead w n) blk off (ss.mergeSort fun x y => decide (x ≤ y)).toArray) os
/-- slices.Compact at []string. -/
structure CompactCon (P : Program) (k : FuncId) : Prop where
  enter : ∀ (args : Array Value) (w : World), (callFunc k args).run P w = .ok (.enter k args) w
  none : ∀ (a : Option Addr) (cap : Nat) (w : World), Calls P k #[.slice a 0 cap] w fun e w' => e = .returned (.slice a 0 cap) ∧ w' = w
  some : ∀ (blk off cap : Nat) (zs : List Str) (w : World), Sort.Holds Proofs.encStr w blk off zs.toArray → zs.length ≤ 9223372036854775807 → zs.length ≤ cap →
    Calls P k #[.slice (some ⟨blk, off, .none⟩) zs.length cap] w fun e w' => e = .returned (.slice (some ⟨blk, off, .none⟩) (Lib.compact zs).length cap) ∧ ∃ q, w' = Sort.putRow Proofs.encStr (Sort.ahead w q) blk off (Lib.compact zs ++ List.replicate (zs.length - (Lib.compact zs).length) []).toArray
/-! slices cut in a region that draws and writes -/
section
variable {n : Nat} {listed : Array Bool}
theorem WA.sub {α : Type} [Enc α] {T e : TypeId} {k : Nat} {x i j : Operand} {v : Value} {xs ys : List α} {m1 m : Int} (listed' : Array Bool) (hi' : ops[k]? = some ⟨some d, .slice T x (some i) (some j) none, ty, pos, af, none⟩) (hs : Region.noSelect ops = true) (hf : Region.free .any ops listed k = true)
    (hr : (Region.ready .any ops listed).contains k = true) (hl : listed.setIfInBounds k true = listed') (hR : Sl H v xs) (hx : ev N f x = v) (hi : ev N f i = int m1) (hj : ev N f j = int m) (hE : Elem P T e (Enc.sz α)) (h : xsub xs m1 m = some ys)
    (K : ∀ v', Sl H v' ys → WA P N ops n listed' Q (upd f d v') w) : WA P N ops (n + 1) listed Q f w := by
  obtain ⟨a, c, rfl, h1, h2, h3⟩ := hR
  have hs2 := Sl.sub (⟨a, c, rfl, h1, h2, h3⟩) h
  refine WA.take listed' hi' hs hf hr hl (fun w => ?_) (K _ hs2)
  obtain ⟨ht, inf, z, hinf, _, hsize, _⟩ := hE
  unfold xsub at h
  split at h
  case isFalse => cases h
  rename_i h0
  have g1 : 0 ≤ m ∧ m ≤ (c : Int) := ⟨by omega, by omega⟩
  simp [execOp, Instr.sliceAt, Instr.slice, Instr.sliceBounds, Instr.sliceBound, asIntOf, hx, hi, hj, int, run_underlying ht, g1, h0.1, sizeOf, typeInfo, hinf, hsize]
  intro hc; omega
/-- Two operations may come next: each of them is gone through. -/
theorem WA.two {i j : Nat} {o o' : Oper} (l1 l2 : Array Bool) (hi : ops[i]? = some o) (hj : ops[j]? = some o') (hr : Region.ready .any ops listed = [i, j]) (h1 : listed.setIfInBounds i true = l1) (h2 : listed.setIfInBounds j true = l2)
    (k1 : WL P N ops [o] (fun f' w' => WA P N ops n l1 Q f' w') f w) (k2 : WL P N ops [o'] (fun f' w' => WA P N ops n l2 Q f' w') f w) : WA P N ops (n + 1) listed Q f w := by
  subst h1; subst h2
  refine wpAny_all hr (by simp) fun q hq => ?_
  have key : ∀ (q : Nat) (o : Oper), ops[q]? = some o → WL P N ops [o] (fun f' w' => WA P N ops n (listed.setIfInBounds q true) Q f' w') f w → wpOp P ops (fun e a w' => ∃ f', a = act N f' ∧ e = .normal ∧ Q f' w') q (wpAny P .any ops (fun e a w' => ∃ f', a = act N f' ∧ e = .normal ∧ Q f' w') n (listed.setIfInBounds q true)) (act N f) w := by
    intro q o hq h
    unfold wpOp
    rw [hq]
    have h' : wpList P ops (fun e a w' => ∃ f', a = act N f' ∧ e = .normal ∧ WA P N ops n (listed.setIfInBounds q true) Q f' w') [o] (act N f) w := h.out
    unfold wpList at h'
    show if Region.wanted o (yielded ops (act N f).tmps) = true then _ else _
    split
    · rename_i hw
      rw [if_pos hw] at h'
      rcases h' with h' | ⟨_, a0, w0, f0, _, he, _⟩
      · refine .inl (Oper.wp_monoQ (fun a w hk => ?_) (fun e a w hne ⟨f', ha, he, _⟩ => absurd he hne) h')
        obtain ⟨f', ha, _, hq⟩ := hk
        subst ha; exact hq
      · cases he
    · rename_i hw
      rw [if_neg hw] at h'
      obtain ⟨f', ha, _, hq⟩ := h'
      rw [ha]; exact hq
  rcases List.mem_cons.1 hq with rfl | hq
  · exact key _ _ hi k1
  · rcases List.mem_singleton.1 hq with rfl
    exact key _ _ hj k2
end
end
end Go.Eng
