/- The engine, part 16: numbers written in decimal; what lies laid in the world. -/
import Derived.Test.YtogfdiigokidaaaDoorEng15
import Derived.Lib.LaidTab
import Derived.Lib.ItoaNum
namespace Go.Eng
open Go Go.RowKit
/-- An int in decimal. -/
def strconv_Itoa (n : Int) : Option Str := if -9223372036854775808 ≤ n ∧ n ≤ 9223372036854775807 then some (Lib.itoa n) else none
theorem below_grow' (w : World) (k : Nat) (os : Array Obj) : Below w.heap.size w (Sort.grow (w.drewN k) os) :=
  ⟨rfl, rfl, rfl, by show w.heap.size ≤ (w.heap ++ os).size; rw [Array.size_append]; omega, fun j hj => by
    show (w.heap ++ os)[j]? = w.heap[j]?
    rw [Array.getElem?_append_left hj]⟩
theorem itoaCon {P : Program} {k : FuncId} {fn : Func} {c : Code} {w : World} {H : Hp} {n : Int} {r : Str} (hf : P.funcs[k]? = some fn) (hb : fn.body = some c) (hname : (fn.name == "runtime.NumGoroutine") = false) (hw : Holds w H)
    (htab : Lib.TabIs P w "internal/strconv.uint64pow10" .u64 Lib.pow10Tab) (h : strconv_Itoa n = some r)
    (hc : ∀ (n : Int), -9223372036854775808 ≤ n → n ≤ 9223372036854775807 → ∀ (w : World), Lib.TabIs P w "internal/strconv.uint64pow10" .u64 Lib.pow10Tab →
      Calls P k #[.int .i64 n] w fun e w' => e = .returned (.string ⟨(Lib.itoa n).toArray⟩) ∧ ∃ k os, w' = Sort.grow (w.drewN k) os) :
    Con P k [int n] w H (fun _ u => u = str r) := by
  unfold strconv_Itoa at h
  split at h
  case isFalse => cases h
  rename_i h0
  simp only [Option.some.injEq] at h
  subst h
  refine Con.of_calls hf hb hname hw (Calls.mono (hc n h0.1 h0.2 w htab) fun _ _ ⟨he, q, os, hp⟩ => ⟨he, ?_⟩)
  subst hp
  exact below_grow' w q os
/-- What a variable of the program's own reads stays as it is, in a call. -/
theorem var_stays {P : Program} {w w' : World} {g : Nat} {n : String} {cs : Array Value} {B : Nat} (hg : P.globalNamed n = some g) (h : w.var? P n = some cs) (hb : Below B w w') (hB : g < B) : w'.var? P n = some cs := by
  unfold World.var? at *
  rw [hg] at h ⊢
  simp only [Option.bind_some] at h ⊢
  rw [hb.block g hB]; exact h
theorem var_lt {P : Program} {w : World} {g : Nat} {n : String} {cs : Array Value} (hg : P.globalNamed n = some g) (h : w.var? P n = some cs) : g < w.heap.size := by
  unfold World.var? at h
  rw [hg] at h
  simp only [Option.bind_some] at h
  cases hh : w.heap[g]? with
  | none => rw [hh] at h; cases h
  | some o => exact (Array.getElem?_eq_some_iff.1 hh).1
theorem tab_post {P : Program} {w0 w : World} {H0 H : Hp} {g : Nat} {n : String} {k : IntKind} {zs : List Int} (hg : P.globalNamed n = some g) (h : Lib.TabIs P w0 n k zs) (p : Post w0 H0 w H) : Lib.TabIs P w n k zs :=
  var_stays hg h p.below (var_lt hg h)
/-- From the row's condition to a variable's cells: whichever stands on the list. -/
theorem tabIs_of_mem {P : Program} {W : World} {name : String} {k : IntKind} {zs : List Int} {l : List (String × DataW Unit)} {g : Nat} {t e : TypeId} {n : Nat} (hm : (name, Lib.tabData k zs) ∈ l)
    (hg : P.globalNamed name = some g) (hty : (P.globals[g]?).map (·.type) = some t) (ht : P.underlying t = some (.array n e)) (he : P.underlying e = some (.int k)) (hce : P.cellsOf e = 1) (hct : P.cellsOf t = n)
    (h : laidMet P l W) : Lib.TabIs P W name k zs := by
  obtain ⟨ps, hl, _⟩ := h
  have key : ∀ (l : List (String × DataW Unit)) (ps : List MemPlace), (name, Lib.tabData k zs) ∈ l → DataW.LaidVars P W l ps → ∃ ps', DataW.LaidVars P W [(name, Lib.tabData k zs)] ps' := by
    intro l
    induction l with
    | nil => intro ps hm; cases hm
    | cons x l ih =>
      intro ps hm hl
      obtain ⟨nm, d⟩ := x
      obtain ⟨g, t, cs, fuel, p, q, h1, h2, h3, h4, h5, rfl⟩ := hl
      rcases List.mem_cons.1 hm with hm | hm
      · cases hm
        exact ⟨_, g, t, cs, fuel, p, [], h1, h2, h3, h4, rfl, rfl⟩
      · exact ih q hm h5
  obtain ⟨ps', hl'⟩ := key l ps hm hl
  obtain ⟨g', t', cs, fuel, p, q, hg', ht', hvar, hd, _, _⟩ := hl'
  obtain rfl := Option.some.inj (hg.symm.trans hg')
  obtain rfl := Option.some.inj (hty.symm.trans ht')
  unfold Lib.TabIs
  rw [hvar, ← Lib.cells_of_tab ht he hce hct hd]
end Go.Eng
