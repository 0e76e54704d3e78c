/- A part of the proof of laws of the seat. -/
import Derived.Test.YtogfdiigokidaaaGreatDoorEng16
import Derived.Deep.AppendSrc
import Derived.Deep.Upon
import Derived.Lib.UnsafeStr
import Derived.Lib.Builder
import Derived.Laws.Externs
import Derived.Laws.Pointers
import Derived.WideLaws
import Derived.Laws.Entries
import Derived.Lib.Bytealg
import Derived.Lib.IndexAny
import Derived.RangeFuncRecord
namespace Go.Eng
open Go Go.RowKit
def ConS (P : Program) (k : FuncId) (args : List Value) (w0 : World) (H0 : Hp) (w : World) (H : Hp) (L2 : List Ent) (R : Hp → Value → List Ent → Prop) : Prop :=
  (∀ w, (callFunc k args.toArray).run P w = .ok (.enter k args.toArray) w) ∧
  Calls P k args.toArray w (fun e w' => ∃ v H' L', e = .returned v ∧ H.le H' ∧ St w0 H0 w' H' (L' ++ L2) ∧ R H' v L')
def OutS (P : Program) (fn : Func) (N : Frm) (w0 : World) (H0 H : Hp) (L2 : List Ent) (R : Hp → Value → List Ent → Prop) : Exit → Fr → World → Prop := fun e f w =>
  (e = .ret ∨ e = .normal) ∧ ∃ v, (results fn (tm N f)).run P w = .ok v w ∧ ∃ H' L', H.le H' ∧ St w0 H0 w H' (L' ++ L2) ∧ R H' v L'
section
variable {P : Program} {N : Frm} {f : Fr} {w w1 w0 : World} {H0 H1 H : Hp} {L L2 L' : List Ent} {ops : Array Oper} {rest : List Oper} {Q : Fr → World → Prop} {d : Nat} {od : Option Nat} {ty : TypeId} {pos : String} {af : Array Edge} {g : Option (Nat × Bool)}
theorem ConS.mk {N : Nat} {fn : Func} {c : Code} {k : FuncId} {args : List Value} {R : Hp → Value → List Ent → Prop} (hf : P.funcs[k]? = some fn) (hb : fn.body = some c) (hn : fn.ntmps = N) (hname : (fn.name == "runtime.NumGoroutine") = false)
    (hsz : Nat.ble args.length N = true) (h : WP P ⟨N, []⟩ c (OutS P fn ⟨N, []⟩ w0 H0 H L2 R) (init args) w) : ConS P k args w0 H0 w H L2 R := by
  refine ⟨fun w => ?_, ?_⟩
  · simp only [callFunc, Sem.run_bind, run_program, Result.andThen_ok, hf, hname, hb]
    rfl
  · refine calls_of_wp hf hb ?_
    have hle : args.length ≤ N := Nat.le_of_ble_eq_true hsz
    have e : ({ tmps := args.toArray ++ Array.replicate (fn.ntmps - args.toArray.size) undef, defers := [] } : Act) = act ⟨N, []⟩ (init args) := by
      simp only [act]
      congr 1
      apply Array.ext_getElem?
      intro t
      rw [tm_get, hn, Array.getElem?_append]
      simp only [List.size_toArray, List.getElem?_toArray, init, List.getD_eq_getElem?_getD]
      by_cases h1 : t < args.length
      · simp [h1, show t < N from by omega]
      · simp only [h1, if_false]
        rw [Array.getElem?_replicate]
        by_cases h2 : t < N
        · rw [if_pos (by omega), if_pos h2, List.getElem?_eq_none (by omega)]; rfl
        · rw [if_neg (by omega), if_neg h2]
    rw [e]
    refine Code.wp_mono (fun e a w' ⟨f', ha, he, v, hv, H', L', hle, hS, hr⟩ => ?_) h
    subst ha
    rcases he with rfl | rfl
    · exact ⟨rfl, v, hv, v, H', L', rfl, hle, hS, hr⟩
    · exact ⟨rfl, v, hv, v, H', L', rfl, hle, hS, hr⟩
theorem W.callS {k : FuncId} {xs : List Operand} {ats : Array TypeId} {args : List Value} {R : Hp → Value → List Ent → Prop} (ha : xs.map (ev N f) = args) (C : ConS P k args w0 H0 w H L2 R)
    (K : ∀ v w' H' L', H.le H' → St w0 H0 w' H' (L' ++ L2) → R H' v L' → WL P N ops rest Q (updo f od v) w') : WL P N ops (⟨od, .call ⟨.value (.func k), xs.toArray, ats⟩, ty, pos, af, none⟩ :: rest) Q f w := by
  refine WL.enterw (w' := w) (k := k) (args := args.toArray) ?_ (Calls.mono C.2 fun e w' ⟨v, H', L', he, hp, hS, hv⟩ => ⟨v, he, K v w' H' L' hp hS hv⟩)
  have : (execOp (ev N f) ⟨od, .call ⟨.value (.func k), xs.toArray, ats⟩, ty, pos, af, none⟩) = callFunc k (#[] ++ xs.toArray.map (ev N f) ++ #[]) := rfl
  rw [this]
  have e : (#[] ++ xs.toArray.map (ev N f) ++ #[]) = args.toArray := by simp [ha]
  rw [e]
  exact C.1 w
theorem run_results0 {fn : Func} (hr : fn.results = #[]) (tmps : Array Value) : (results fn tmps).run P w = .ok (.tuple #[]) w := by
  rw [results_eq, hr]
  simp only [List.mapM_toArray, List.mapM_nil, Sem.run_bind, Sem.run_map, Sem.run_pure, Result.andThen_ok]
  rfl
theorem OutS.zero {fn : Func} {R : Hp → Value → List Ent → Prop} {e : Exit} (he : e = .ret ∨ e = .normal) (hr : fn.results = #[]) (hle : H1.le H) (S : St w0 H0 w H (L' ++ L2)) (hR : R H (.tuple #[]) L') : OutS P fn N w0 H0 H1 L2 R e f w :=
  ⟨he, _, run_results0 hr _, H, L', hle, S, hR⟩
theorem OutS.one {fn : Func} {r : ResultVar} {v : Value} {R : Hp → Value → List Ent → Prop} (hr : fn.results = #[r]) (hle : H1.le H) (S : St w0 H0 w H (L' ++ L2)) (h : Res P N f w r v) (hR : R H v L') : OutS P fn N w0 H0 H1 L2 R .ret f w := by
  refine ⟨.inl rfl, v, ?_, H, L', hle, S, hR⟩
  have := run_resultVar h
  rw [results_eq, hr]
  simp only [List.mapM_toArray, List.mapM_cons, List.mapM_nil, Sem.run_bind, Sem.run_map, this, Result.andThen_ok, Sem.run_pure]
  rfl
theorem St.front (S : St w0 H0 w H L) (i : Nat) {e : Ent} (hi : L[i]? = some e) : St w0 H0 w H (e :: L.eraseIdx i) := by
  have hm := List.mem_of_getElem? hi
  refine ⟨S.post, ?_, ?_, ?_⟩
  · intro x hx
    rcases List.mem_cons.1 hx with rfl | hx
    · exact S.ents _ hm
    · exact S.ents _ ((List.eraseIdx_sublist _ _).subset hx)
  · intro x hx
    rcases List.mem_cons.1 hx with rfl | hx
    · exact S.own _ hm
    · exact S.own _ ((List.eraseIdx_sublist _ _).subset hx)
  · have hp : ∀ (L : List Ent) (i : Nat), L[i]? = some e → List.Perm (e :: L.eraseIdx i) L := by
      intro L
      induction L with
      | nil => intro i hi; simp at hi
      | cons x L ih =>
        intro i hi
        cases i with
        | zero => simp at hi; subst hi; simp
        | succ i =>
          simp at hi
          rw [List.eraseIdx_cons_succ]
          exact (List.Perm.swap x e _).trans ((ih i hi).cons x)
    exact ((hp L i hi).filterMap Ent.blk).nodup_iff.2 S.nodup
end
end Go.Eng
namespace Go.Eng
open Go
def iand (a b : Int) : Int := IntKind.wrap .i64 ((BitVec.ofInt 64 a &&& BitVec.ofInt 64 b).toNat : Int)
section
variable {P : Program} {N : Frm} {f : Fr} {w : World} {d : Option Nat} {ty : TypeId} {pos : String} {af : Array Edge} {g : Option (Nat × Bool)}
theorem R.and {x y : Operand} {a b : Int} {T T' : TypeId} (hx : ev N f x = int a) (hy : ev N f y = int b) : (execOp (ev N f) ⟨d, .binOp .and T x y T', ty, pos, af, g⟩).run P w = .ok (.value (int (iand a b))) w := by
  simp [execOp, eqGuard, hx, hy, int, binOp, Op.intBits, iand]
  rfl
end
end Go.Eng
namespace Go.Eng
open Go
section
variable {P : Program} {N : Frm} {f : Fr} {w w0 : World} {H0 H : Hp} {L : List Ent} {ops : Array Oper} {rest : List Oper} {Q : Fr → World → Prop} {d : Nat} {od : Option Nat} {ty : TypeId} {pos : String} {af : Array Edge}
theorem W.storeSl {α : Type} [Enc α] {T T' : TypeId} {a x : Operand} {b o i : Nat} {bb : Bool} {u : Value} {xs : List α} {cs : List Value} (cs' : List Value) (S : St w0 H0 w H L) (R : Sl H u xs) (ha : ev N f a = ptr b o) (hx : ev N f x = u) (hi : L[i]? = some (.box b T' cs)) (hT : lay P T = some (bb, 1))
    (ho : o + 1 ≤ cs.length) (hc : splice cs o [u] = cs')
    (k : ∀ w', St w0 H0 w' H (L.set i (.box b T' cs')) → WL P N ops rest Q (updo f od undef) w') : WL P N ops (⟨od, .store T a x, ty, pos, af, none⟩ :: rest) Q f w :=
  W.store cs' S ha hx hi hT (by rw [Sl.cellsOne R]; rfl) (by rw [Sl.cellsOne R]; simp [Sl.oneC R]) ho (by rw [Sl.cellsOne R]; exact hc) k
end
end Go.Eng
namespace Go.Eng
open Go
variable {P : Program} {md : Region.Mode} {ops : Array Oper} {Q : Exit → Act → World → Prop} {C : World → Prop}
def wpAnyC (P : Program) (md : Region.Mode) (ops : Array Oper) (C : World → Prop) (Q : Exit → Act → World → Prop) : Nat → Array Bool → Act → World → Prop
  | 0, listed, a, w => C w ∧ Region.ready md ops listed = [] ∧ Q .normal a w
  | n + 1, listed, a, w => C w ∧ (Region.ready md ops listed = [] → Q .normal a w) ∧
      ∀ i ∈ Region.ready md ops listed, wpOp P ops Q i (wpAnyC P md ops C Q n (listed.setIfInBounds i true)) a w
theorem wpAnyC.cls : ∀ {n : Nat} {listed : Array Bool} {a : Act} {w : World}, wpAnyC P md ops C Q n listed a w → C w
  | 0, _, _, _, h => h.1
  | _ + 1, _, _, _, h => h.1
theorem wpAnyC.any : ∀ {n : Nat} {listed : Array Bool} {a : Act} {w : World}, wpAnyC P md ops C Q n listed a w → wpAny P md ops Q n listed a w
  | 0, _, _, _, h => h.2
  | _ + 1, _, _, _, h => ⟨h.2.1, fun i hi => wpOp_mono (fun _ _ h => wpAnyC.any h) (h.2.2 i hi)⟩
def YieldsC (P : Program) (ops : Array Oper) (C : World → Prop) (o : Oper) (v : Value) (a : Act) : Prop :=
  (Region.wanted o (yielded ops a.tmps) = true ∧ ∀ w, C w → (execOp a.eval o).run P w = .ok (.value v) w) ∨
  (Region.wanted o (yielded ops a.tmps) = false ∧ v = undef)
theorem YieldsC.wpOp {i : Nat} {o : Oper} {v : Value} {a : Act} (hi : ops[i]? = some o) (hy : YieldsC P ops C o v a)
    {K : Act → World → Prop} {w : World} (hC : C w) (h : K (a.put o.dst v) w) : wpOp P ops Q i K a w := by
  unfold Go.wpOp
  simp only [hi]
  rcases hy with ⟨hw, hv⟩ | ⟨hw, rfl⟩
  · simp only [hw, if_true, Oper.wp, hv w hC, Oper.upon]; exact .inl h
  · simp only [hw, Bool.false_eq_true, if_false]; exact h
theorem YieldsC.of_same {o : Oper} {v : Value} {a a' : Act} (hy : YieldsC P ops C o v a) (he : execOp a'.eval o = execOp a.eval o)
    (hw : Region.wanted o (yielded ops a'.tmps) = Region.wanted o (yielded ops a.tmps)) : YieldsC P ops C o v a' := by
  unfold YieldsC at *
  rw [he, hw]
  exact hy
theorem wpOp_putC {j : Nat} {oi oj : Oper} {v : Value} (hj : ops[j]? = some oj) (hap : oi.apart ops oj = true)
    (hsi : ∀ cs b, oi.op ≠ .select cs b) (hsj : ∀ cs b, oj.op ≠ .select cs b)
    (hQ : ∀ c a w, Q (.panic c) (a.put oi.dst v) w → Q (.panic c) a w) {K : Act → World → Prop} {a : Act} {w : World}
    (hy : YieldsC P ops C oi v a) (h : wpOp P ops Q j K (a.put oi.dst v) w) :
    wpOp P ops Q j (fun a' w' => YieldsC P ops C oi v a' ∧ K (a'.put oi.dst v) w') a w := by
  obtain ⟨h1, h2, h3⟩ := Oper.apart_spec hap
  have keep : ∀ (a : Act), YieldsC P ops C oi v a → ∀ u, YieldsC P ops C oi v (a.put oj.dst u) := fun a hy u =>
    hy.of_same (execOp_put oi hsi a oj.dst u h3) (wanted_put oi a oj.dst u h3)
  have keepD : ∀ d, YieldsC P ops C oi v { a with defers := d :: a.defers } := fun d => hy.of_same rfl rfl
  unfold wpOp at *
  simp only [hj] at *
  rw [wanted_put oj a oi.dst v h1] at h
  split
  · rename_i hw
    simp only [hw, if_true] at h
    rcases h with h | ⟨hasks, hlets⟩
    case inr => exact .inr ⟨by unfold Oper.asks at *; rw [execOp_put oj hsj a oi.dst v h1] at hasks; exact hasks, hlets⟩
    refine .inl ?_
    unfold Oper.wp at *
    rw [execOp_put oj hsj a oi.dst v h1] at h
    generalize (execOp a.eval oj).run P w = r at *
    cases r with
    | ok n w' =>
      cases n <;> simp only [Oper.upon] at h ⊢
      case value u => exact ⟨keep a hy u, by rw [← Act.put_comm a v u h2]; exact h⟩
      case skip => exact ⟨keep a hy _, by rw [← Act.put_comm a v undef h2]; exact h⟩
      case defer d =>
        refine ⟨keep _ (keepD d) _, ?_⟩
        rw [← Act.put_comm _ v undef h2, ← Act.put_defers]
        exact h
      case enter f args =>
        refine Calls.mono h fun e w'' he => ?_
        cases e with
        | returned u => exact ⟨keep a hy u, by rw [← Act.put_comm a v u h2]; exact he⟩
        | panicked c => exact hQ _ _ _ he
        | outgrown => exact he
      case row row args => exact Rows.mono h fun u w'' he => ⟨keep a hy u, by rw [← Act.put_comm a v u h2]; exact he⟩
    | halt x w' =>
      cases x <;> simp only [Oper.upon] at h ⊢
      case panic u => exact hQ _ _ _ h
  · rename_i hw
    simp only [hw] at h
    exact ⟨keep a hy _, by rw [← Act.put_comm a v undef h2]; exact h⟩
theorem wpAnyC_first {i : Nat} {oi : Oper} {v : Value} (hi : ops[i]? = some oi) (hsel : ∀ (j : Nat) (o : Oper) cs b, ops[j]? = some o → o.op ≠ .select cs b)
    (hQ : ∀ c a w, Q (.panic c) (a.put oi.dst v) w → Q (.panic c) a w) :
    ∀ (fuel : Nat) (listed : Array Bool) (a : Act) (w : World),
      (∀ j oj, ops[j]? = some oj → j ≠ i → listed.getD j true = false → (∀ e ∈ oj.after, Region.binds md e = true → e.on ≠ i) → oi.apart ops oj = true) →
      i ∈ Region.ready md ops listed → YieldsC P ops C oi v a →
      wpAnyC P md ops C Q fuel (listed.setIfInBounds i true) (a.put oi.dst v) w → wpAnyC P md ops C Q (fuel + 1) listed a w := by
  intro fuel
  induction fuel with
  | zero =>
    intro listed a w _ hr hy H
    refine ⟨H.cls, fun h => (by rw [h] at hr; cases hr), fun j hj => ?_⟩
    by_cases hji : j = i
    · subst hji; exact hy.wpOp hi H.cls H
    · have := ready_mono hj hji
      rw [H.2.1] at this
      cases this
  | succ fuel ih =>
    intro listed a w hfree hr hy H
    refine ⟨H.cls, fun h => (by rw [h] at hr; cases hr), fun j hj => ?_⟩
    by_cases hji : j = i
    · subst hji; exact hy.wpOp hi H.cls H
    · have h1 := H.2.2 j (ready_mono hj hji)
      obtain ⟨hjun, oj, hoj, hall⟩ := mem_ready.1 hj
      have hnot : ∀ e ∈ oj.after, Region.binds md e = true → e.on ≠ i := fun e he hb heq => by
        have h1 := hall e he hb
        have h0 := (mem_ready.1 hr).1
        rw [heq] at h1
        rcases Nat.lt_or_ge i listed.size with h' | h'
        · simp [h'] at h0 h1; rw [h0] at h1; cases h1
        · simp [Array.getElem?_eq_none h'] at h1
      have h2 := wpOp_putC hoj (hfree j oj hoj hji hjun hnot) (fun cs b => hsel i oi cs b hi) (fun cs b => hsel j oj cs b hoj) hQ hy h1
      have hfree' : ∀ k ok, ops[k]? = some ok → k ≠ i → (listed.setIfInBounds j true).getD k true = false →
          (∀ e ∈ ok.after, Region.binds md e = true → e.on ≠ i) → oi.apart ops ok = true := fun k ok hk hki hun hno => by
        refine hfree k ok hk hki ?_ hno
        by_cases hjk : j = k
        · subst hjk; exact hjun
        · rw [getD_set_ne true hjk] at hun; exact hun
      refine wpOp_mono (fun a' w' h3 => ih (listed.setIfInBounds j true) a' w' hfree' (ready_mono hr (Ne.symm hji)) h3.1 ?_) h2
      rw [Array.setIfInBounds_comm _ _ hji]
      exact h3.2
structure WC (P : Program) (N : Frm) (ops : Array Oper) (C : World → Prop) (n : Nat) (listed : Array Bool) (Q : Fr → World → Prop) (f : Fr) (w : World) : Prop where
  out : wpAnyC P .any ops C (fun e a w' => ∃ f', a = act N f' ∧ e = .normal ∧ Q f' w') n listed (act N f) w
section
variable {N : Frm} {f : Fr} {w w0 : World} {H0 H : Hp} {L : List Ent} {Q : Fr → World → Prop} {n : Nat} {listed : Array Bool}
theorem WP.drawC {id : Nat} {Q : Exit → Fr → World → Prop} (C : World → Prop) (hm : P.follows .mixedOrders = true) (m : Nat) (hn : ops.size = m) (l0 : Array Bool) (hl : Array.replicate m false = l0) (h : WC P N ops C m l0 (Q .normal) f w.drew) : WP P N (.region id ops true) Q f w := by
  subst hn; subst hl
  refine wp_region_any hm (wpAny_monoQ (fun e a w ⟨f', ha, he, hq⟩ => ?_) _ _ _ _ h.out.any)
  subst he
  exact ⟨f', ha, hq⟩
theorem WC.take {i : Nat} {d : Option Nat} {op : Op} {ty : TypeId} {pos : String} {af : Array Edge} {v : Value} (listed' : Array Bool) (hi : ops[i]? = some ⟨d, op, ty, pos, af, none⟩) (hs : Region.noSelect ops = true) (hf : Region.free .any ops listed i = true)
    (hr : (Region.ready .any ops listed).contains i = true) (hl : listed.setIfInBounds i true = listed') (hrun : ∀ w, C w → (execOp (ev N f) ⟨d, op, ty, pos, af, none⟩).run P w = .ok (.value v) w)
    (h : WC P N ops C n listed' Q (updo f d v) w) : WC P N ops C (n + 1) listed Q f w := by
  subst hl
  refine ⟨wpAnyC_first hi (Region.noSelect_spec hs) (fun c a w ⟨f', _, he, _⟩ => by cases he) n listed _ w (Region.free_spec hi hf) (by simpa using hr) (v := v) (.inl ⟨by simp [Region.wanted], fun w hw => ?_⟩) ?_⟩
  · rw [eval_act']; exact hrun w hw
  · show wpAnyC P .any ops C _ n _ ((act N f).put d v) w
    rw [put_act]; exact h.out
theorem wpOp_of_WL {j : Nat} {o : Oper} {K : Fr → World → Prop} {Q : Fr → World → Prop} (hi : ops[j]? = some o) (h : WL P N ops [o] K f w) : wpOp P ops (fun e a w' => ∃ f', a = act N f' ∧ e = .normal ∧ Q f' w') j (fun a w' => ∃ f', a = act N f' ∧ K f' w') (act N f) w := by
  unfold wpOp
  rw [hi]
  have h' : wpList P ops (fun e a w' => ∃ f', a = act N f' ∧ e = .normal ∧ K f' w') [o] (act N f) w := h.out
  unfold wpList at h'
  show if Region.wanted o (yielded ops (act N f).tmps) = true then _ else _
  split
  · rename_i hw
    rw [if_pos hw] at h'
    rcases h' with h' | ⟨_, a0, w0, f0, _, he, _⟩
    · refine .inl (Oper.wp_monoQ (fun a w hk => ?_) (fun e a w hne ⟨f', ha, he, _⟩ => absurd he hne) h')
      obtain ⟨f', ha, _, hq⟩ := hk
      exact ⟨f', ha, hq⟩
    · cases he
  · rename_i hw
    rw [if_neg hw] at h'
    obtain ⟨f', ha, _, hq⟩ := h'
    exact ⟨f', ha, hq⟩
def Nxt (P : Program) (N : Frm) (ops : Array Oper) (C : World → Prop) (n : Nat) (listed : Array Bool) (Q : Fr → World → Prop) (f : Fr) (w : World) (i : Nat) : Prop :=
  ∃ o, ops[i]? = some o ∧ WL P N ops [o] (fun f' w' => WC P N ops C n (listed.setIfInBounds i true) Q f' w') f w
theorem WC.next {rs : List Nat} (hC : C w) (hr : Region.ready .any ops listed = rs) (hne : rs ≠ []) (h : ∀ i ∈ rs, Nxt P N ops C n listed Q f w i) : WC P N ops C (n + 1) listed Q f w := by
  subst hr
  refine ⟨hC, fun h0 => absurd h0 hne, fun i hi => ?_⟩
  obtain ⟨o, ho, hw⟩ := h i hi
  refine wpOp_mono (fun a w' ⟨f', ha, hq⟩ => ?_) (wpOp_of_WL (Q := Q) ho hw)
  subst ha; exact hq.out
theorem Nxt.mk {i : Nat} {o : Oper} (listed' : Array Bool) (hi : ops[i]? = some o) (hl : listed.setIfInBounds i true = listed') (h : WL P N ops [o] (fun f' w' => WC P N ops C n listed' Q f' w') f w) : Nxt P N ops C n listed Q f w i := by
  subst hl; exact ⟨o, hi, h⟩
theorem all1 {p : Nat → Prop} {a : Nat} (h : p a) : ∀ i ∈ [a], p i := by intro i hi; rw [List.mem_singleton.1 hi]; exact h
theorem allS {p : Nat → Prop} {a : Nat} {l : List Nat} (h : p a) (k : ∀ i ∈ l, p i) : ∀ i ∈ a :: l, p i := by
  intro i hi
  rcases List.mem_cons.1 hi with rfl | hi
  · exact h
  · exact k i hi
theorem WC.done (hC : C w) (hr : Region.ready .any ops listed = []) (h : Q f w) : WC P N ops C n listed Q f w := by
  refine ⟨?_⟩
  cases n with
  | zero => exact ⟨hC, hr, f, rfl, rfl, h⟩
  | succ n => exact ⟨hC, fun _ => ⟨f, rfl, rfl, h⟩, by rw [hr]; simp⟩
end
end Go.Eng
namespace Go.Eng
open Go Go.RowKit
section
variable {P : Program} {N : Frm} {f : Fr} {w w0 : World} {H0 H : Hp} {L : List Ent} {ops : Array Oper} {rest : List Oper} {Q : Fr → World → Prop} {d : Nat} {od : Option Nat} {ty : TypeId} {pos : String} {af : Array Edge} {g : Option (Nat × Bool)}
theorem ConS.mono {k : FuncId} {args : List Value} {H1 : Hp} {L2 : List Ent} {R R' : Hp → Value → List Ent → Prop} (h : ConS P k args w0 H0 w H1 L2 R) (hr : ∀ H v L, R H v L → R' H v L) : ConS P k args w0 H0 w H1 L2 R' :=
  ⟨h.1, Calls.mono h.2 fun _ _ ⟨v, H', L', he, hl, hS, hv⟩ => ⟨v, H', L', he, hl, hS, hr _ _ _ hv⟩⟩
end
noncomputable def stringslite_Index (s sub : Str) : Option Int := match sub with | [c] => strings_IndexByte s c | _ => none
theorem ixOneCon {P : Program} {k : FuncId} {fn : Func} {c : Code} {w : World} {H : Hp} {s sub : Str} {r : Int} (hf : P.funcs[k]? = some fn) (hb : fn.body = some c) (hname : (fn.name == "runtime.NumGoroutine") = false) (hw : Holds w H) (h : stringslite_Index s sub = some r)
    (hc : ∀ (s : ByteArray) (c : UInt8) (w : World), Calls P k #[.string s, .string ⟨#[c]⟩] w fun e w' => e = .returned (.int .i64 (Lib.indexByte s.data.toList c)) ∧ w' = w) :
    Con P k [str s, str sub] w H (fun _ u => u = int r) := by
  unfold stringslite_Index at h
  split at h
  case h_2 => cases h
  rename_i c
  have hh := hc ⟨⟨s⟩⟩ c w
  simp only [strings_IndexByte, Option.some.injEq] at h
  subst h
  exact Con.of_calls_same hf hb hname hw hh
end Go.Eng
namespace Go.Eng
open Go
theorem mapN {N : Frm} {f : Fr} : ([] : List Operand).map (ev N f) = [] := rfl
theorem mapC {N : Frm} {f : Fr} {x : Operand} {xs : List Operand} {v : Value} {vs : List Value} (h : ev N f x = v) (k : xs.map (ev N f) = vs) : (x :: xs).map (ev N f) = v :: vs := by
  rw [List.map_cons, h, k]
end Go.Eng
namespace Go.Eng
open Go
def ConI (P : Program) (m : String) (recv : Value) (args : List Value) (w : World) (H : Hp) (R : Hp → Value → Prop) : Prop :=
  ∃ k as', (∀ w, (callMethod recv m args.toArray).run P w = .ok (.enter k as') w) ∧
    Calls P k as' w (fun e w' => ∃ v H', e = .returned v ∧ Post w H w' H' ∧ R H' v)
section
variable {P : Program} {N : Frm} {f : Fr} {w w0 : World} {H0 H : Hp} {L : List Ent} {ops : Array Oper} {rest : List Oper} {Q : Fr → World → Prop} {d : Nat} {od : Option Nat} {ty : TypeId} {pos : String} {af : Array Edge} {g : Option (Nat × Bool)}
theorem ConI.mk {m : String} {k : FuncId} {recv v : Value} {args : List Value} {R : Hp → Value → Prop} (hm : ∀ w, (callMethod recv m args.toArray).run P w = .ok (.enter k (v :: args).toArray) w) (C : Con P k (v :: args) w H R) : ConI P m recv args w H R := ⟨k, _, hm, C.2⟩
theorem W.invoke {m : String} {x : Operand} {xs : List Operand} {ats : Array TypeId} {args : List Value} {rv : Value} {R : Hp → Value → Prop} (S : St w0 H0 w H L) (hx : ev N f x = rv) (ha : xs.map (ev N f) = args) (C : ConI P m rv args w H R)
    (K : ∀ v w' H', H.le H' → St w0 H0 w' H' L → R H' v → WL P N ops rest Q (updo f od v) w') : WL P N ops (⟨od, .call ⟨.invoke x m, xs.toArray, ats⟩, ty, pos, af, none⟩ :: rest) Q f w := by
  obtain ⟨k, as', hm, hc⟩ := C
  refine WL.enterw (w' := w) (k := k) (args := as') ?_ (Calls.mono hc fun e w' ⟨v, H', he, hp, hv⟩ => ⟨v, he, K v w' H' hp.le (S.call hp) hv⟩)
  subst ha; subst hx
  have e : (#[ev N f x] ++ xs.toArray.map (ev N f)).extract 1 (#[ev N f x] ++ xs.toArray.map (ev N f)).size = (xs.map (ev N f)).toArray := by
    simp [List.take_of_length_le]
  have a0 : (#[ev N f x] ++ xs.toArray.map (ev N f))[0]? = some (ev N f x) := by simp
  have : (execOp (ev N f) ⟨od, .call ⟨.invoke x m, xs.toArray, ats⟩, ty, pos, af, none⟩).run P w = (callMethod (ev N f x) m (xs.map (ev N f)).toArray).run P w := by
    show (Go.invoke (.fn (.method m) #[]) (#[ev N f x] ++ xs.toArray.map (ev N f))).run P w = _
    unfold Go.invoke
    simp only [a0, e]
  rw [this]
  exact hm w
theorem R.mkIface {T : TypeId} {D : TypeDesc} {x : Operand} {v : Value} (hx : ev N f x = v) (hT : P.underlying T = some D) (hd : ∀ ms, D ≠ .interface ms) :
    (execOp (ev N f) ⟨od, .makeInterface T x, ty, pos, af, g⟩).run P w = .ok (.value (.iface T v)) w := by
  simp only [execOp, Instr.makeInterface, Sem.run_bind, run_underlying hT, Result.andThen_ok, hx]
  cases D <;> first | rfl | exact absurd rfl (hd _)
end
end Go.Eng
namespace Go.Eng
open Go
set_option linter.unusedSimpArgs false
def Ms {α : Type} [Enc α] (H : Hp) (ms : List Value) (xs : List α) : Prop := Enc.sz α = 1 ∧ Cells H ms xs ∧ xs.length ≤ 1048576
def xmake {α : Type} (n : Int) (z : α) : Option (List α) := if 0 ≤ n ∧ n ≤ 1048576 then some (List.replicate n.toNat z) else none
def xput {α : Type} (xs : List α) (i : Int) (x : α) : Option (List α) := if 0 ≤ i ∧ i < xs.length then some (xs.set i.toNat x) else none
section
variable {α : Type} [Enc α] {H H' : Hp} {ms : List Value} {xs : List α}
theorem Ms.mono (h : Ms H ms xs) (hl : H.le H') : Ms H' ms xs := ⟨h.1, h.2.1.mono hl, h.2.2⟩
theorem Ms.length (h : Ms H ms xs) : ms.length = xs.length := by rw [h.2.1.length, h.1, Nat.mul_one]
theorem Cells.set1 (h1 : Enc.sz α = 1) {v : Value} {x : α} (hv : Enc.cells H [v] x) : ∀ {xs : List α} {ms : List Value} (i : Nat), Cells H ms xs → i < xs.length → Cells H (ms.set i v) (xs.set i x)
  | [], _, _, _, hi => absurd hi (by simp)
  | y :: ys, _, 0, ⟨cs, r, e, hc, hr⟩, _ => by
    have hl := Enc.len hc
    rw [h1] at hl
    match cs, hl with
    | [u], _ => subst e; exact ⟨[v], r, rfl, hv, hr⟩
  | y :: ys, _, i + 1, ⟨cs, r, e, hc, hr⟩, hi => by
    have hl := Enc.len hc
    rw [h1] at hl
    match cs, hl with
    | [u], _ => subst e; exact ⟨[u], r.set i v, rfl, hc, Cells.set1 h1 hv i hr (by simpa using hi)⟩
theorem Ms.set (h : Ms H ms xs) {i : Int} {x : α} {v : Value} {ys : List α} (hv : Enc.cells H [v] x) (hx : xput xs i x = some ys) : Ms H (ms.set i.toNat v) ys := by
  unfold xput at hx
  split at hx
  · rename_i h0
    injection hx with hx
    subst hx
    exact ⟨h.1, Cells.set1 h.1 hv _ h.2.1 (by omega), by rw [List.length_set]; exact h.2.2⟩
  · cases hx
omit [Enc α] in
theorem xput_len {i : Int} {x : α} {ys : List α} (hx : xput xs i x = some ys) : ys.length = xs.length ∧ 0 ≤ i ∧ i < xs.length := by
  unfold xput at hx
  split at hx
  · rename_i h0; injection hx with hx; subst hx; exact ⟨List.length_set, h0.1, h0.2⟩
  · cases hx
theorem Ms.sl {b : Nat} (h : Ms H ms xs) {n : Nat} (hn : xs.length = n) (hA : At H ⟨b, 0, none⟩ ms) : Sl H (.slice (some ⟨b, 0, none⟩) n n) xs := by
  subst hn
  have hm : xs.length ≤ maxLen := by have := h.2.2; unfold maxLen; omega
  exact ⟨_, _, rfl, Nat.le_refl _, hm, .inr ⟨b, 0, ms, rfl, hA, h.2.1⟩⟩
theorem Cells.rep {z : α} {zv : Value} (hc : Enc.cells H [zv] z) : ∀ n : Nat, Cells H (List.replicate n zv) (List.replicate n z)
  | 0 => rfl
  | n + 1 => ⟨[zv], List.replicate n zv, rfl, hc, Cells.rep hc n⟩
end
section
variable {P : Program} {N : Frm} {f : Fr} {w w0 : World} {H0 H : Hp} {L : List Ent} {ops : Array Oper} {rest : List Oper} {Q : Fr → World → Prop} {d : Nat} {od : Option Nat} {ty : TypeId} {pos : String} {af : Array Edge} {g : Option (Nat × Bool)}
theorem W.makeSlice {α : Type} [Enc α] {T e : TypeId} {x y : Operand} {n : Int} {z : α} {zv : Value} {xs : List α} (S : St w0 H0 w H L) (hE : Elem P T e 1) (h1 : Enc.sz α = 1) (hx : ev N f x = int n) (hy : ev N f y = int n) (hz : zer P e = some [zv]) (hc : Enc.cells H [zv] z)
    (h : xmake n z = some xs) (K : ∀ b w' ms n, xs.length = n → Ms H ms xs → St w0 H0 w' H (.box b e ms :: L) → WL P N ops rest Q (upd f d (.slice (some ⟨b, 0, none⟩) n n)) w') :
    WL P N ops (⟨some d, .makeSlice T x y, ty, pos, af, none⟩ :: rest) Q f w := by
  unfold xmake at h
  split at h
  case isFalse => cases h
  rename_i h0
  injection h with h
  subst h
  obtain ⟨ht, inf, zz, hinf, hzz, hsize, hzs, hbytes⟩ := hE
  have hzc : zz.cells.toList = [zv] := by
    unfold zer at hz
    rw [hinf] at hz
    simpa [hzz] using hz
  have hza : zz.cells = #[zv] := by
    apply Array.toList_inj.1; simpa using hzc
  have hrow : ((Array.range (n.toNat * 1)).map (zz.cells[· % zz.cells.size]!)).toList = List.replicate n.toNat zv := by
    rw [hza]
    apply List.ext_getElem?
    intro i
    simp only [Nat.mul_one, Array.toList_map, Array.toList_range, List.getElem?_map, List.getElem?_replicate]
    by_cases hi : i < n.toNat
    · simp [hi, Nat.mod_one]
    · simp [hi]
  have S1 := S.box e ((Array.range (n.toNat * 1)).map (zz.cells[· % zz.cells.size]!)) (0, 0) (List.replicate n.toNat zv) [] (by rw [hrow]; simp) (by intro i _ h; exact Nat.not_lt_zero _ h.2)
  have K1 := K w.heap.size _ _ n.toNat List.length_replicate ⟨h1, Cells.rep hc n.toNat, by rw [List.length_replicate]; omega⟩ S1
  refine WL.w (v := .slice (some ⟨w.heap.size, 0, none⟩) n.toNat n.toNat) (w' := w.alloc (.cells ((Array.range (n.toNat * 1)).map (zz.cells[· % zz.cells.size]!)) e)) ?_ K1
  have hw : IntKind.i64.wrap n = n := wr_eq ⟨by omega, by omega⟩
  have hb : ¬ ((inf.bytes : Int) * n > 2 ^ 48) := by
    have h1 : (inf.bytes : Int) ≤ 512 := by omega
    have : (inf.bytes : Int) * n ≤ 512 * 1048576 := Int.mul_le_mul h1 h0.2 h0.1 (by omega)
    omega
  have hroom : ¬ (n.toNat * inf.bytes > roomBytes) := by
    have : n.toNat * inf.bytes ≤ 1048576 * 512 := Nat.mul_le_mul (by omega) hbytes
    unfold roomBytes; omega
  have e0 : ev N f x = .int .i64 n := hx
  have e1 : ev N f y = .int .i64 n := hy
  have hne : ¬ ((decide (n < 0) || decide ((inf.bytes : Int) * n > 2 ^ 48)) || decide (n < 0) || decide (n > n)) = true := by
    simp only [Bool.or_eq_true, decide_eq_true_eq]; omega
  simp only [execOp, Instr.makeSlice, run_underlying ht, asInt, asIntOf, e0, e1, typeInfo, hinf, Sem.run_bind, run_program, Result.andThen_ok, Sem.run_pure, hw]
  rw [if_neg (by simpa using hne)]
  simp only [askRoom, hroom, if_false, Sem.run_bind, Sem.run_pure, Result.andThen_ok, sizeOf, typeInfo, run_program, hinf, hsize, zeroValue, hzz]
  by_cases hn : n.toNat * 1 = 0
  · simp only [hn, if_true, Sem.run_pure, Result.andThen_ok, newRow]
    simp
    have e0 : ∀ g : Nat → Value, (Array.range 0).map g = #[] := fun g => Array.eq_empty_of_size_eq_zero (by simp)
    rw [e0, e0]
  · simp only [hn, if_false, Sem.run_bind, run_program, hinf, hzz, Sem.run_pure, Result.andThen_ok, newRow]
    simp
theorem splice_one {ms : List Value} {o : Nat} {v : Value} (h : o < ms.length) : splice ms o [v] = ms.set o v := by
  unfold splice
  rw [List.set_eq_take_append_cons_drop, if_pos h]
  simp
theorem W.storeM {α : Type} [Enc α] {T T' : TypeId} {a x : Operand} {b i : Nat} {m : Int} {v : Value} {xs ys : List α} {y : α} {ms : List Value} (S : St w0 H0 w H L) (hM : Ms H ms xs) (ha : ev N f a = ptr b m.toNat) (hx : ev N f x = v) (hi : L[i]? = some (.box b T' ms))
    (hT : lay P T = some (false, 1)) (hv1 : v.cells = #[v]) (hv : Enc.cells H [v] y) (h : xput xs m y = some ys)
    (k : ∀ w' ms', Ms H ms' ys → St w0 H0 w' H (L.set i (.box b T' ms')) → WL P N ops rest Q (updo f od undef) w') : WL P N ops (⟨od, .store T a x, ty, pos, af, none⟩ :: rest) Q f w := by
  obtain ⟨_, h0, h1⟩ := xput_len h
  have hl := hM.length
  refine W.store (i := i) (ms.set m.toNat v) S ha hx hi hT (by rw [hv1]; rfl) ?_ (by omega) ?_ (fun w' S' => k w' _ (hM.set hv h) S')
  · rw [hv1]
    exact List.all_eq_true.2 fun u hu => Enc.one hv u (by simpa using hu)
  · rw [hv1]
    exact splice_one (by omega)
theorem R.idxM {α : Type} [Enc α] {T e : TypeId} {x i : Operand} {b n : Nat} {m : Int} {xs : List α} {z : α} (hx : ev N f x = .slice (some ⟨b, 0, none⟩) n n) (hn : xs.length = n) (hi : ev N f i = int m) (hE : Elem P T e 1) (h : xnth xs m = some z) :
    (execOp (ev N f) ⟨od, .indexAddr T x i, ty, pos, af, g⟩).run P w = .ok (.value (ptr b m.toNat)) w := by
  refine R.idxB hx hi hE ?_
  unfold xnth at h
  split at h
  · rename_i h0
    have := (List.getElem?_eq_some_iff.1 h).1
    omega
  · cases h
end
end Go.Eng
namespace Go.Eng
open Go
section
variable {P : Program} {N : Frm} {f : Fr} {w w0 : World} {H0 H : Hp} {L : List Ent} {ops : Array Oper} {rest : List Oper} {Q : Fr → World → Prop} {d : Nat} {od : Option Nat} {ty : TypeId} {pos : String} {af : Array Edge} {g : Option (Nat × Bool)}
theorem W.countString {k : FuncId} {fn : Func} {x y : Operand} {s : Str} {c : UInt8} {ats : Array TypeId} (hf : P.funcs[k]? = some fn) (hname : (fn.name == "runtime.NumGoroutine") = false) (hb : fn.body.isNone = true) (hn : Extern.findNext fn = none) (he : Extern.find fn = some Extern.BytealgCount.count)
    (hx : ev N f x = str s) (hy : ev N f y = byt c) (h : WL P N ops rest Q (updo f od (int (s.count c : Nat))) w) : WL P N ops (⟨od, .call ⟨.value (.func k), #[x, y], ats⟩, ty, pos, af, none⟩ :: rest) Q f w := by
  refine WL.w (w' := w) (v := int (s.count c : Nat)) ?_ h
  have h1 : (execOp (ev N f) ⟨od, .call ⟨.value (.func k), #[x, y], ats⟩, ty, pos, af, none⟩) = callFunc k (#[] ++ #[x, y].map (ev N f) ++ #[]) := rfl
  have h2 : (#[] ++ #[x, y].map (ev N f) ++ #[]) = #[str s, byt c] := by simp [hx, hy]
  have h3 := Lib.run_countString (P := P) ⟨⟨s⟩⟩ (c.toNat : Int) w
  have h4 : ((c.toNat : Int).toNat.toUInt8) = c := by simp
  rw [h4] at h3
  rw [h1, h2, run_callFunc_extern hf hname hb hn he]
  show ((Extern.BytealgCount.count #[str s, byt c]).run P w).andThen _ = _
  rw [show (Extern.BytealgCount.count #[str s, byt c]).run P w = _ from h3]
  rfl
end
end Go.Eng
namespace Go.Eng
open Go
noncomputable def strings_IndexAny (s chars : Str) : Option Int := if (chars.all fun c => decide (c < 128)) = true ∧ 2 ≤ chars.length ∧ chars.length ≤ 1000 ∧ s.length ≤ 1073741824 then some (Lib.indexAny s chars) else none
theorem ixAnyCon {P : Program} {k : FuncId} {fn : Func} {c : Code} {w : World} {H : Hp} {s chars : Str} {r : Int} (hf : P.funcs[k]? = some fn) (hb : fn.body = some c) (hname : (fn.name == "runtime.NumGoroutine") = false) (hw : Holds w H) (h : strings_IndexAny s chars = some r)
    (hc : ∀ (s chars : ByteArray) (w : World), 2 ≤ chars.size → s.size < 4294967281 → chars.size < 4294967281 → (∀ (j : Nat) b, chars.data.toList[j]? = some b → b.toNat < 128) →
      Calls P k #[.string s, .string chars] w fun e w' => e = .returned (.int .i64 (Lib.indexAny s.data.toList chars.data.toList)) ∧ RowKit.Below w.heap.size w w') :
    Con P k [str s, str chars] w H (fun _ u => u = int r) := by
  unfold strings_IndexAny at h
  split at h
  case isFalse => cases h
  rename_i hg
  simp only [Option.some.injEq] at h
  subst h
  obtain ⟨h1, h2, h3, h4⟩ := hg
  refine Con.of_calls hf hb hname hw (hc ⟨⟨s⟩⟩ ⟨⟨chars⟩⟩ w h2 (by show s.length < _; omega) (by show chars.length < _; omega) fun j b hj => ?_)
  simp only [List.all_eq_true, decide_eq_true_eq] at h1
  exact UInt8.lt_iff_toNat_lt.1 (h1 b (List.mem_of_getElem? hj))
end Go.Eng
namespace Go.Eng
open Go
set_option linter.unusedVariables false
section
variable {P : Program}
def WPR (P : Program) (n : Nat) (c : Code) (Q : Exit → List Deferred → Fr → World → Prop) (ds : List Deferred) (f : Fr) (w : World) : Prop :=
  c.wp P (fun e a w' => ∃ f' ds', a = act ⟨n, ds'⟩ f' ∧ Q e ds' f' w') (act ⟨n, ds⟩ f) w
variable {n : Nat} {Q : Exit → List Deferred → Fr → World → Prop} {ds : List Deferred} {f : Fr} {w : World}
theorem WPR.of {c : Code} (h : WP P ⟨n, ds⟩ c (fun e f w => Q e ds f w) f w) : WPR P n c Q ds f w :=
  Code.wp_mono (fun e a w ⟨f', ha, q⟩ => ⟨f', ds, ha, q⟩) h
theorem WPR.seq {x y : Code} (h : WPR P n x (fun e ds f w => match e with | .normal => WPR P n y Q ds f w | e => Q e ds f w) ds f w) : WPR P n (.seq x y) Q ds f w := by
  refine wp_seq (Code.wp_mono (fun e a w ⟨f', ds', ha, q⟩ => ?_) h)
  subst ha
  cases e with
  | normal => exact q
  | _ => exact ⟨f', ds', rfl, q⟩
theorem WPR.block {id : Nat} {c : Code} (h : WPR P n c (fun e ds f w => Q (blk id e) ds f w) ds f w) : WPR P n (.block id c) Q ds f w := by
  refine wp_block (Code.wp_mono (fun e a w ⟨f', ds', ha, q⟩ => ?_) h)
  subst ha
  cases e with
  | exit i =>
    simp only [Exit.inBlock]
    by_cases hi : i = id
    · subst hi
      simp only [if_true]
      refine ⟨f', ds', rfl, ?_⟩
      simpa [blk] using q
    · simp only [hi, if_false]
      refine ⟨f', ds', rfl, ?_⟩
      have hb : Nat.beq i id = false := by
        cases hb : Nat.beq i id with
        | false => rfl
        | true => exact absurd (Nat.eq_of_beq_eq_true hb) hi
      simpa [blk, hb] using q
  | _ => exact ⟨f', ds', rfl, q⟩
def mark (D : Nat) : Deferred := { target := .collected D, args := #[] }
def OutR (P : Program) (fn : Func) (n : Nat) (w0 : World) (H0 : Hp) (R : Hp → Value → Prop) : Exit → List Deferred → Fr → World → Prop := fun e ds f w =>
  (e = .ret ∨ e = .normal) ∧ ∃ (Ds : List Nat) (v : Value) (H : Hp) (L : List Ent), ds = Ds.map mark ∧ (∀ w, (results fn (tm ⟨n, []⟩ f)).run P w = .ok v w) ∧ St w0 H0 w H (Ds.map (fun D => Ent.obj D (.deferred (some []))) ++ L) ∧ R H v
theorem St.renewObj {w0 w : World} {H0 H : Hp} {L : List Ent} (S : St w0 H0 w H L) {i b : Nat} {o : Obj} (hi : L[i]? = some (.obj b o)) (o' : Obj) : St w0 H0 (w.putObj b o') H (L.set i (.obj b o')) := by
  obtain ⟨hH, hc⟩ : ObjOk w H b o := S.ents _ (List.mem_of_getElem? hi)
  have hlt := (Array.getElem?_eq_some_iff.1 hc).1
  exact S.renew hi rfl rfl hH (fun k hk => World.putObj_heap_other hk) World.putObj_size ⟨rfl, rfl, rfl⟩ ⟨hH, World.putObj_heap_same hlt⟩
theorem Con.mkR {N : Nat} {fn : Func} {c : Code} {k : FuncId} {args : List Value} {H : Hp} {R : Hp → Value → Prop} (hf : P.funcs[k]? = some fn) (hb : fn.body = some c) (hn : fn.ntmps = N) (hname : (fn.name == "runtime.NumGoroutine") = false)
    (hsz : Nat.ble args.length N = true) (h : WPR P N c (OutR P fn N w H R) [] (init args) w) : Con P k args w H R := by
  refine ⟨fun w => ?_, ?_⟩
  · simp only [callFunc, Sem.run_bind, run_program, Result.andThen_ok, hf, hname, hb]
    rfl
  · refine callsIn_wide.1 (callsIn_of_wp_marks (n := 0) hf hb trivial (wpIn_wide.2 ?_) rfl)
    have hle : args.length ≤ N := Nat.le_of_ble_eq_true hsz
    have e : ({ tmps := args.toArray ++ Array.replicate (fn.ntmps - args.toArray.size) undef, defers := [] } : Act) = act ⟨N, []⟩ (init args) := by
      simp only [act]
      congr 1
      apply Array.ext_getElem?
      intro t
      rw [tm_get, hn, Array.getElem?_append]
      simp only [List.size_toArray, List.getElem?_toArray, init, List.getD_eq_getElem?_getD]
      by_cases h1 : t < args.length
      · simp [h1, show t < N from by omega]
      · simp only [h1, if_false]
        rw [Array.getElem?_replicate]
        by_cases h2 : t < N
        · rw [if_pos (by omega), if_pos h2, List.getElem?_eq_none (by omega)]; rfl
        · rw [if_neg (by omega), if_neg h2]
    rw [e]
    refine Code.wp_mono (fun e a w' ⟨f', ds', ha, he, Ds, v, H', L, hds, hv, hS, hr⟩ => ?_) h
    subst ha
    have key : ∀ (Ds : List Nat) (w' : World), St w H w' H' (Ds.map (fun D => Ent.obj D (.deferred (some []))) ++ L) →
        LeavesInM Fence.wide 0 P fn (tm ⟨N, ds'⟩ f') (fun e w' => ∃ v, ∃ H', e = .returned v ∧ Post w H w' H' ∧ R H' v) (Ds.map mark) .returning w' := by
      intro Ds
      induction Ds with
      | nil =>
        intro w' S
        exact ⟨v, hv w', v, H', rfl, S.post, hr⟩
      | cons D Ds ih =>
        intro w' S
        have hok : ObjOk w' H' D (.deferred (some [])) := S.ents (.obj D (.deferred (some []))) (by simp)
        refine ⟨by simp, .inl ⟨D, _, rfl, run_takeDeferred hok.2, ih _ ?_⟩⟩
        have S2 := S.renewObj (i := 0) rfl (.deferred none)
        exact S2.drop _ (by simp)
    subst hds
    rcases he with rfl | rfl
    · exact key Ds w' hS
    · exact key Ds w' hS
abbrev rec0 (fn : FuncId) (n : Nat) (f : Fr) (ps : Array Tmp) (assign body : Code) (D : Nat) : Loop :=
  { state := .ready, pending := none, fn, tmps := tm ⟨n, []⟩ f, params := ps, assign, body, defers := D }
theorem WPR.range {w0 : World} {H0 H : Hp} {L : List Ent} {g : Operand} {ps : Array Tmp} {assign body : Code} {gf : Nat} {caps : List Value}
    (S : St w0 H0 w H L) (hg : ev ⟨n, ds⟩ f g = .func (.func gf) #[] caps.toArray) (eg : ∀ args w, (callFunc gf args).run P w = .ok (.enter gf args) w)
    (h : ∀ (fn D : Nat) (w2 : World), St w0 H0 w2 H (.obj (D + 1) (.loop (rec0 fn n f ps assign body D)) :: .obj D (.deferred (some [])) :: L) →
      Calls P gf (#[.func (.yield (D + 1)) #[] #[]] ++ caps.toArray) w2 (fun e w' => ∃ v, e = .returned v ∧ ∃ H' L', St w0 H0 w' H' (.obj (D + 1) (.loop (rec0 fn n f ps assign body D)) :: L') ∧
        ∀ w'', St w0 H0 w'' H' L' → Q .normal (mark D :: ds) f w'')) :
    WPR P n (.rangeFunc g ps assign body) Q ds f w := by
  refine (wpIn_wide (n := 0)).1 (wpIn_rangeFunc fun fn _ => ?_)
  have S1 := S.new (.deferred (some [])) (.obj w.heap.size (.deferred (some []))) rfl ⟨S.holds.none_of_size (Nat.le_refl _), heap_alloc_new w _⟩
  have hsz : (w.alloc (.deferred (some []))).heap.size = w.heap.size + 1 := by simp
  have S2 := S1.new (.loop (rec0 fn n f ps assign body w.heap.size)) (.obj (w.heap.size + 1) (.loop (rec0 fn n f ps assign body w.heap.size))) (by rw [hsz]; rfl)
    ⟨S1.holds.none_of_size (by rw [hsz]; exact Nat.le_refl _), by have := heap_alloc_new (w.alloc (.deferred (some []))) (.loop (rec0 fn n f ps assign body w.heap.size)); rw [hsz] at this; exact this⟩
  have hev : (act ⟨n, ds⟩ f).eval g = .func (.func gf) #[] caps.toArray := (eval_act _ f g).trans hg
  refine ⟨w.heap.size + 1, [mark w.heap.size], ((w.alloc (.deferred (some []))).alloc (.loop (rec0 fn n f ps assign body w.heap.size))), ⟨.fn (.func gf) caps.toArray, #[.func (.yield (w.heap.size + 1)) #[] #[]]⟩, ((w.alloc (.deferred (some []))).alloc (.loop (rec0 fn n f ps assign body w.heap.size))), gf, #[.func (.yield (w.heap.size + 1)) #[] #[]] ++ caps.toArray, ((w.alloc (.deferred (some []))).alloc (.loop (rec0 fn n f ps assign body w.heap.size))), run_enterLoop_outer fn (act ⟨n, ds⟩ f).tmps ps assign body, ?_, fun _ _ => trivial, ?_, (fun h => by cases h), callsIn_wide.2 ?_⟩
  · simp only [resolve, hev, Deferred.ofValue]
    simp [Act.eval]
  · simp only [invoke]
    exact eg _ _
  · refine Calls.mono (h fn w.heap.size _ S2) fun e w' ⟨v, he, H', L', S', hq⟩ => ?_
    subst he
    have hok : ObjOk w' H' (w.heap.size + 1) (.loop (rec0 fn n f ps assign body w.heap.size)) := S'.ents (.obj (w.heap.size + 1) (.loop (rec0 fn n f ps assign body w.heap.size))) (by simp)
    refine ⟨none, _, run_endLoop hok.2 (by simp), f, mark w.heap.size :: ds, rfl, hq _ ?_⟩
    have S3 := S'.renewObj (i := 0) rfl (.loop { rec0 fn n f ps assign body w.heap.size with state := .exhausted })
    exact S3.drop _ (.cons _ (.refl _))
end
section
variable {P : Program} {N : Frm}
structure WY (P : Program) (N : Frm) (ops : Array Oper) (l : List Nat) (Q : Fr → World → Prop) (f : Fr) (w : World) : Prop where
  out : wpOpsIn Fence.wide 0 P ops (fun e a w' => ∃ f', a = act N f' ∧ e = .normal ∧ Q f' w') l (act N f) w
variable {ops : Array Oper} {rest : List Nat} {Q : Fr → World → Prop} {f : Fr} {w w' : World} {d : Option Nat} {op : Op} {ty : TypeId} {pos : String} {af : Array Edge} {i : Nat}
theorem WP.regionY {id : Nat} {Q : Exit → Fr → World → Prop} (l : List Nat) (hl : List.range ops.size = l) (h : WY P N ops l (Q .normal) f w) : WP P N (.region id ops false) Q f w := by
  subst hl
  refine (wpIn_wide (n := 0)).1 (wpIn_region ?_)
  have key : ∀ (l : List Nat) (a : Act) (w : World), wpOpsIn Fence.wide 0 P ops (fun e a w' => ∃ f', a = act N f' ∧ e = .normal ∧ Q .normal f' w') l a w → wpOpsIn Fence.wide 0 P ops (fun e a w' => ∃ f', a = act N f' ∧ Q e f' w') l a w := by
    intro l
    induction l with
    | nil => intro a w ⟨f', ha, _, q⟩; exact ⟨f', ha, q⟩
    | cons i rest ih =>
      intro a w h
      unfold wpOpsIn at h ⊢
      split
      · rename_i ho
        simp only [ho] at h
        exact ih _ _ h
      · rename_i o ho
        simp only [ho] at h
        split
        · rename_i hw
          rw [if_pos hw] at h
          refine ⟨h.1, ?_⟩
          have h2 := h.2
          unfold Oper.uponIn at h2 ⊢
          generalize (Oper.semAt Fence.wide.round a.eval o).run P w = r at h2 ⊢
          cases r with
          | ok nx w' =>
            cases nx with
            | value v => exact ih _ _ h2
            | skip => exact ih _ _ h2
            | defer d => exact ih _ _ h2
            | enter g args =>
              refine ⟨h2.1, CallsIn.mono h2.2 fun e w'' he => ?_⟩
              cases e with
              | returned v => exact ih _ _ he
              | panicked c => obtain ⟨f', ha, hc, _⟩ := he; cases hc
              | outgrown => obtain ⟨a0, w0, f0, _, hc, _⟩ := he; cases hc
            | row r args => exact ⟨h2.1, RowsIn.mono h2.2 fun v w'' he => ih _ _ he⟩
            | round l f tmps assign body =>
              refine ⟨h2.1, RoundIn.mono h2.2 fun e w'' he => ?_⟩
              cases e with
              | returned v => exact ih _ _ he
              | panicked c => obtain ⟨f', ha, hc, _⟩ := he; cases hc
              | outgrown => obtain ⟨a0, w0, f0, _, hc, _⟩ := he; cases hc
            | _ => exact h2
          | halt x w' =>
            cases x with
            | panic v => obtain ⟨f', _, hc, _⟩ := h2; cases hc
            | _ => exact h2
        · rename_i hw
          rw [if_neg hw] at h
          exact ⟨h.1, ih _ _ h.2⟩
  exact key _ _ _ h.out
theorem WY.nil (h : Q f w) : WY P N ops [] Q f w := ⟨⟨f, rfl, rfl, h⟩⟩
theorem WY.valw {v : Value} (ho : ops[i]? = some ⟨d, op, ty, pos, af, none⟩) (hr : (execOp (ev N f) ⟨d, op, ty, pos, af, none⟩).run P w = .ok (.value v) w') (h : WY P N ops rest Q (updo f d v) w') : WY P N ops (i :: rest) Q f w := by
  refine ⟨?_⟩
  unfold wpOpsIn
  simp only [ho]
  rw [if_pos (by simp [Region.wanted])]
  refine ⟨fun _ _ => trivial, ?_⟩
  have e : (Oper.semAt Fence.wide.round (act N f).eval ⟨d, op, ty, pos, af, none⟩).run P w = .ok (.value v) w' := by
    rw [eval_act']; exact hr
  rw [e, Oper.uponIn_value]
  show wpOpsIn _ _ _ _ _ rest ((act N f).put d v) w'
  rw [put_act]
  exact h.out
theorem WY.yield {x a : Operand} {v : Value} {l : Nat} {r : Loop} {ats : Array TypeId} {K : World → Prop} (ho : ops[i]? = some ⟨d, .call ⟨.value x, #[a], ats⟩, ty, pos, af, none⟩)
    (hx : ev N f x = .func (.yield l) #[] #[]) (ha : ev N f a = v) (hl : w.heap[l]? = some (.loop r)) (hp : r.params.size = 1)
    (hR : RoundIn Fence.wide 0 P l r.fn ((r.params.zip #[v]).foldl (fun tmps (t, a) => tmps.setIfInBounds t a) r.tmps) r.assign r.body w (fun e w' => e = .returned (.bool true) ∧ K w'))
    (h : ∀ w', K w' → WY P N ops rest Q (updo f d (boo true)) w') : WY P N ops (i :: rest) Q f w := by
  refine ⟨?_⟩
  unfold wpOpsIn
  simp only [ho]
  rw [if_pos (by simp [Region.wanted])]
  refine ⟨fun _ _ => trivial, ?_⟩
  have e : (Oper.semAt Fence.wide.round (act N f).eval ⟨d, .call ⟨.value x, #[a], ats⟩, ty, pos, af, none⟩).run P w = .ok (.round l r.fn ((r.params.zip #[v]).foldl (fun tmps (t, a) => tmps.setIfInBounds t a) r.tmps) r.assign r.body) w := by
    rw [eval_act', show Fence.wide.round = none from rfl, Oper.semAt_none]
    have hy := run_yield (P := P) (args := #[v]) hl (by rw [hp]; rfl)
    simp [execOp, resolve, hx, ha, Deferred.ofValue, invoke, hy]
  rw [e, Oper.uponIn_round]
  refine ⟨(fun h => by cases h), RoundIn.mono hR fun e w' ⟨he, hk⟩ => ?_⟩
  subst he
  show wpOpsIn _ _ _ _ _ rest ((act N f).put d (.bool true)) w'
  rw [put_act]
  exact (h w' hk).out
def SL (P : Program) (N : Frm) : List Oper → (Fr → World → Prop) → Fr → World → Prop
  | [], Q, f, w => Q f w
  | o :: rest, Q, f, w => o.guard = none ∧ (∀ c, o.op ≠ .defer c) ∧
      ((∃ v w', (execOp (ev N f) o).run P w = .ok (.value v) w' ∧ SL P N rest Q (updo f o.dst v) w') ∨ (∃ w', (execOp (ev N f) o).run P w = .ok .skip w' ∧ SL P N rest Q (updo f o.dst undef) w'))
theorem SL.wpIn {l id : Nat} {ops : List Oper} {Q : Fr → World → Prop} {f : Fr} {w : World} (h : SL P N ops Q f w) :
    (Code.region id ops.toArray false).wpIn (Fence.wide.inRound l) 0 P (fun e a w' => ∃ f', a = act N f' ∧ e = .normal ∧ Q f' w') (act N f) w := by
  refine wpIn_region ?_
  have key : ∀ (k n : Nat) (f : Fr) (w : World), n + k = ops.length → SL P N (ops.drop n) Q f w →
      wpOpsIn (Fence.wide.inRound l) 0 P ops.toArray (fun e a w' => ∃ f', a = act N f' ∧ e = .normal ∧ Q f' w') (List.range' n k) (act N f) w := by
    intro k
    induction k with
    | zero =>
      intro n f w hn h
      have : n = ops.length := by omega
      subst this
      rw [List.drop_length] at h
      exact ⟨f, rfl, rfl, h⟩
    | succ k ih =>
      intro n f w hn h
      have hlt : n < ops.length := by omega
      rw [List.drop_eq_getElem_cons hlt] at h
      obtain ⟨hg, hd, h⟩ := h
      have ho : ops.toArray[n]? = some ops[n] := by simp [hlt]
      rw [List.range'_succ]
      unfold wpOpsIn
      simp only [ho]
      rw [if_pos (by simp [Region.wanted, hg])]
      refine ⟨fun _ _ => trivial, ?_⟩
      have es := Oper.semAt_eq (some l) (act N f).eval ops[n] hd
      rw [show (Fence.wide.inRound l).round = some l from rfl, es, eval_act']
      rcases h with ⟨v, w', hr, h⟩ | ⟨w', hr, h⟩
      · rw [hr, Oper.uponIn_value, put_act]
        exact ih (n + 1) _ _ (by omega) h
      · rw [hr, Oper.uponIn_skip, put_act]
        exact ih (n + 1) _ _ (by omega) h
  have := key ops.length 0 f w (by omega) (by simpa using h)
  simpa [List.range_eq_range'] using this
theorem round_of {n : Nat} {w0 w : World} {H0 H : Hp} {L : List Ent} {l : Nat} {r : Loop} {ia j ib : Nat} {opa opb : List Oper} {f : Fr} {tmps : Array Value} {K : World → Prop}
    (S : St w0 H0 w H (.obj l (.loop r) :: L)) (hr : r.state = .ready) (hpend : r.pending = none) (ha : r.assign = .region ia opa.toArray false) (hb : r.body = .block j (.region ib opb.toArray false)) (ht : tmps = tm ⟨n, []⟩ f)
    (h : SL P ⟨n, []⟩ opa (fun f1 w1 => ∃ H1, St w0 H0 w1 H1 (.obj l (.loop r) :: L) ∧ ∀ w2, St w0 H0 w2 H1 (.obj l (.loop { r with state := .busy }) :: L) →
      SL P ⟨n, []⟩ opb (fun f3 w3 => ∃ H3 L3, St w0 H0 w3 H3 (.obj l (.loop { r with state := .busy }) :: L3) ∧ ∀ w4, St w0 H0 w4 H3 (.obj l (.loop r) :: L3) → K w4) f1 w2) f w) :
    RoundIn Fence.wide 0 P l r.fn tmps r.assign r.body w (fun e w' => e = .returned (.bool true) ∧ K w') := by
  subst ht
  rw [ha, hb]
  have hr0 : { r with state := LoopState.ready, pending := none } = r := by cases r; simp at hr hpend; subst hr; subst hpend; rfl
  refine roundIn_of_wpIn trivial (wpIn_mono (SL.wpIn h) fun e a w1 ⟨f1, hact, he, H1, S1, hk⟩ => ?_)
  subst hact; subst he
  have hok : ObjOk w1 H1 l (.loop r) := S1.ents (.obj l (.loop r)) (by simp)
  refine ⟨_, run_beginRound hok.2 hr, wpIn_block (wpIn_mono (SL.wpIn (hk _ (S1.renewObj (i := 0) rfl _))) fun e a w3 ⟨f3, hact, he, H3, L3, S3, hk3⟩ => ?_)⟩
  subst hact; subst he
  have hok3 : ObjOk w3 H3 l (.loop { r with state := .busy }) := S3.ents (.obj l (.loop { r with state := .busy })) (by simp)
  refine ⟨_, _, run_endRound none hok3.2, rfl, hk3 _ ?_⟩
  have S4 := S3.renewObj (i := 0) rfl (.loop { { r with state := .busy } with state := .ready, pending := none })
  have e2 : ({ { r with state := LoopState.busy } with state := LoopState.ready, pending := none } : Loop) = r := hr0
  have goal : St w0 H0 (w3.putObj l (.loop { { r with state := LoopState.busy } with state := LoopState.ready, pending := none })) H3 (.obj l (.loop r) :: L3) := by
    have S5 : St w0 H0 (w3.putObj l (.loop { { r with state := LoopState.busy } with state := LoopState.ready, pending := none })) H3 (.obj l (.loop { { r with state := LoopState.busy } with state := LoopState.ready, pending := none }) :: L3) := S4
    rw [e2] at S5 ⊢
    exact S5
  exact goal
end
end Go.Eng
