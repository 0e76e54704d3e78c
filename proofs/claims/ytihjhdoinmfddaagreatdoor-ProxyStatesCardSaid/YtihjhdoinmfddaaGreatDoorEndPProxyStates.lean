/- A part of the proof: the function is no instance. -/
import Derived.Test.YtihjhdoinmfddaaGreatDoorCards
import Derived.Test.YtihjhdoinmfddaaGreatDoorTie
import Derived.KernelRfl
import Derived.JoinedCond
import Derived.Test.YtihjhdoinmfddaaGreatDoorEndKProxyStates
import Derived.Test.YtihjhdoinmfddaaGreatDoorEndLProxyStates
import Derived.Test.YtihjhdoinmfddaaGreatDoorEndMProxyStates
import Derived.Test.YtihjhdoinmfddaaGreatDoorEndNProxyStates
namespace Go.Proofs.YtihjhdoinmfddaaGreatDoor
open Go
theorem proxyStates_inst : Tryz.f3.isInstance Tryz.pinned.checked.prog Rows.proxyStatesRow.origin Rows.proxyStatesRow.targs := of_decide_eq_true (by kernel_rfl)
theorem proxyStates_fn : Tryz.pinned.checked.prog.funcNamed Rows.proxyStatesRow.func = some 3 := by kernel_rfl
theorem proxyStates_wrap : Tryz.f3.isWrapper Tryz.pinned.checked.prog Rows.proxyStatesRow.wrapper Rows.proxyStatesRow.mainSum := by unfold Func.isWrapper; first | (rw [if_pos (by decide +kernel)]; kernel_rfl) | (rw [if_neg (by decide +kernel)]; exact ⟨rfl, rfl⟩)
end Go.Proofs.YtihjhdoinmfddaaGreatDoor
