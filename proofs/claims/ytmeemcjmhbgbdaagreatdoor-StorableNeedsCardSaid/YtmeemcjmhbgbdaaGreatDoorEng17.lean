/- The engine, part 17: calls that write what the caller owns. -/
import Derived.Test.YtmeemcjmhbgbdaaGreatDoorEng16
namespace Go.Eng
open Go Go.RowKit
/-- A call that may write what the caller has of its own: what else the caller has (L2) is kept. -/
def ConS (P : Program) (k : FuncId) (args : List Value) (w0 : World) (H0 : Hp) (w : World) (H : Hp) (L2 : List Ent) (R : Hp → Value → List Ent → Prop) : Prop :=
  (∀ w, (callFunc k args.toArray).run P w = .ok (.enter k args.toArray) w) ∧
  Calls P k args.toArray w (fun e w' => ∃ v H' L', e = .returned v ∧ H.le H' ∧ St w0 H0 w' H' (L' ++ L2) ∧ R H' v L')
/-- The end of such a function. -/
def OutS (P : Program) (fn : Func) (N : Nat) (w0 : World) (H0 H : Hp) (L2 : List Ent) (R : Hp → Value → List Ent → Prop) : Exit → Fr → World → Prop := fun e f w =>
  (e = .ret ∨ e = .normal) ∧ ∃ v, (results fn (tm N f)).run P w = .ok v w ∧ ∃ H' L', H.le H' ∧ St w0 H0 w H' (L' ++ L2) ∧ R H' v L'
section
variable {P : Program} {N : Nat} {f : Fr} {w w1 w0 : World} {H0 H1 H : Hp} {L L2 L' : List Ent} {ops : Array Oper} {rest : List Oper} {Q : Fr → World → Prop} {d : Nat} {od : Option Nat} {ty : TypeId} {pos : String} {af : Array Edge} {g : Option (Nat × Bool)}
theorem ConS.mk {fn : Func} {c : Code} {k : FuncId} {args : List Value} {R : Hp → Value → List Ent → Prop} (hf : P.funcs[k]? = some fn) (hb : fn.body = some c) (hn : fn.ntmps = N) (hname : (fn.name == "runtime.NumGoroutine") = false)
    (hsz : Nat.ble args.length N = true) (h : WP P N c (OutS P fn N w0 H0 H L2 R) (init args) w) : ConS P k args w0 H0 w H L2 R := by
  refine ⟨fun w => ?_, ?_⟩
  · simp only [callFunc, Sem.run_bind, run_program, Result.andThen_ok, hf, hname, hb]
    rfl
  · refine calls_of_wp hf hb ?_
    have hle : args.length ≤ N := Nat.le_of_ble_eq_true hsz
    have e : ({ tmps := args.toArray ++ Array.replicate (fn.ntmps - args.toArray.size) undef, defers := [] } : Act) = act N (init args) := by
      simp only [act]
      congr 1
      apply Array.ext_getElem?
      intro t
      rw [tm_get, hn, Array.getElem?_append]
      simp only [List.size_toArray, List.getElem?_toArray, init, List.getD_eq_getElem?_getD]
      by_cases h1 : t < args.length
      · simp [h1, show t < N from by omega]
      · simp only [h1, if_false]
        rw [Array.getElem?_replicate]
        by_cases h2 : t < N
        · rw [if_pos (by omega), if_pos h2, List.getElem?_eq_none (by omega)]; rfl
        · rw [if_neg (by omega), if_neg h2]
    rw [e]
    refine Code.wp_mono (fun e a w' ⟨f', ha, he, v, hv, H', L', hle, hS, hr⟩ => ?_) h
    subst ha
    rcases he with rfl | rfl
    · exact ⟨rfl, v, hv, v, H', L', rfl, hle, hS, hr⟩
    · exact ⟨rfl, v, hv, v, H', L', rfl, hle, hS, hr⟩
theorem run_results0 {fn : Func} (hr : fn.results = #[]) (tmps : Array Value) : (results fn tmps).run P w = .ok (.tuple #[]) w := by
  rw [results_eq, hr]
  simp only [List.mapM_toArray, List.mapM_nil, Sem.run_bind, Sem.run_map, Sem.run_pure, Result.andThen_ok]
  rfl
theorem OutS.zero {fn : Func} {R : Hp → Value → List Ent → Prop} {e : Exit} (he : e = .ret ∨ e = .normal) (hr : fn.results = #[]) (hle : H1.le H) (S : St w0 H0 w H (L' ++ L2)) (hR : R H (.tuple #[]) L') : OutS P fn N w0 H0 H1 L2 R e f w :=
  ⟨he, _, run_results0 hr _, H, L', hle, S, hR⟩
theorem OutS.one {fn : Func} {r : ResultVar} {v : Value} {R : Hp → Value → List Ent → Prop} (hr : fn.results = #[r]) (hle : H1.le H) (S : St w0 H0 w H (L' ++ L2)) (h : Res P N f w r v) (hR : R H v L') : OutS P fn N w0 H0 H1 L2 R .ret f w := by
  refine ⟨.inl rfl, v, ?_, H, L', hle, S, hR⟩
  have := run_resultVar h
  rw [results_eq, hr]
  simp only [List.mapM_toArray, List.mapM_cons, List.mapM_nil, Sem.run_bind, Sem.run_map, this, Result.andThen_ok, Sem.run_pure]
  rfl
theorem OutS.two {fn : Func} {r1 r2 : ResultVar} {v1 v2 : Value} {R : Hp → Value → List Ent → Prop} (hr : fn.results = #[r1, r2]) (hle : H1.le H) (S : St w0 H0 w H (L' ++ L2)) (h1 : Res P N f w r1 v1) (h2 : Res P N f w r2 v2) (hR : R H (.tuple ⟨[v1, v2]⟩) L') : OutS P fn N w0 H0 H1 L2 R .ret f w := by
  refine ⟨.inl rfl, _, ?_, H, L', hle, S, hR⟩
  have h1 := run_resultVar h1
  have h2 := run_resultVar h2
  rw [results_eq, hr]
  simp only [List.mapM_toArray, List.mapM_cons, List.mapM_nil, Sem.run_bind, Sem.run_map, h1, h2, Result.andThen_ok, Sem.run_pure]
  rfl
/-- A function that returns nothing: the plain contract. -/
theorem Out.zero {fn : Func} {R : Hp → Value → Prop} {e : Exit} (he : e = .ret ∨ e = .normal) (hr : fn.results = #[]) (S : St w0 H0 w H L) (hR : R H (.tuple #[])) : Out P fn N w0 H0 R e f w :=
  ⟨he, _, run_results0 hr _, H, S.post, hR⟩
/-- One of the things is put first. -/
theorem St.front (S : St w0 H0 w H L) (i : Nat) {e : Ent} (hi : L[i]? = some e) : St w0 H0 w H (e :: L.eraseIdx i) := by
  have hm := List.mem_of_getElem? hi
  refine ⟨S.post, ?_, ?_, ?_⟩
  · intro x hx
    rcases List.mem_cons.1 hx with rfl | hx
    · exact S.ents _ hm
    · exact S.ents _ ((List.eraseIdx_sublist _ _).subset hx)
  · intro x hx
    rcases List.mem_cons.1 hx with rfl | hx
    · exact S.own _ hm
    · exact S.own _ ((List.eraseIdx_sublist _ _).subset hx)
  · have hp : ∀ (L : List Ent) (i : Nat), L[i]? = some e → List.Perm (e :: L.eraseIdx i) L := by
      intro L
      induction L with
      | nil => intro i hi; simp at hi
      | cons x L ih =>
        intro i hi
        cases i with
        | zero => simp at hi; subst hi; simp
        | succ i =>
          simp at hi
          rw [List.eraseIdx_cons_succ]
          exact (List.Perm.swap x e _).trans ((ih i hi).cons x)
    exact ((hp L i hi).filterMap Ent.blk).nodup_iff.2 S.nodup
end
end Go.Eng
