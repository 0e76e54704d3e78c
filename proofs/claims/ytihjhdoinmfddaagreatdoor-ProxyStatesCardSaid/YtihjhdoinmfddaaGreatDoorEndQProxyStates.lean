/- A part of the proof: a closed fact of the program (goesBy). -/
import Derived.Test.YtihjhdoinmfddaaGreatDoorCards
import Derived.Test.YtihjhdoinmfddaaGreatDoorTie
import Derived.KernelRfl
namespace Go.Proofs.YtihjhdoinmfddaaGreatDoor
open Go
theorem goes_none (P : Program) (h : P.funcs.any Func.goes = false) (c : OpenClaim) : false = c.goesBy P := by
  have h1 : ∀ g : Nat, (P.funcs[g]?).any Func.goes = false := fun g => by
    cases hg : P.funcs[g]? with
    | none => rfl
    | some fn =>
      have := Array.any_eq_false'.1 h fn (Array.mem_of_getElem? hg)
      simpa using this
  have h2 : ∀ f, P.goes f = false := fun f => by
    unfold Program.goes
    rw [h, Bool.and_false, Bool.or_false]
    simp [h1]
  unfold OpenClaim.goesBy Program.goesAt Program.goesFrom
  have h3 : (P.funcNamed c.func).any P.goes = false := by
    cases P.funcNamed c.func with
    | none => rfl
    | some f => exact h2 f
  rw [h3]
  cases c.start <;> simp [h2]
theorem proxyStates_goes : false = Rows.proxyStatesRow.goesBy Tryz.pinned.checked.prog := goes_none _ (by kernel_rfl) _
end Go.Proofs.YtihjhdoinmfddaaGreatDoor
