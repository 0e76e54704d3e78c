/- A part of the proof: the function is no instance. -/
import Derived.Test.YtljjaiijlaeoeaaGreatDoorCards
import Derived.Test.YtljjaiijlaeoeaaGreatDoorTie
import Derived.KernelRfl
import Derived.JoinedCond
import Derived.Test.YtljjaiijlaeoeaaGreatDoorEndKProxyMakes
import Derived.Test.YtljjaiijlaeoeaaGreatDoorEndLProxyMakes
import Derived.Test.YtljjaiijlaeoeaaGreatDoorEndMProxyMakes
import Derived.Test.YtljjaiijlaeoeaaGreatDoorEndNProxyMakes
namespace Go.Proofs.YtljjaiijlaeoeaaGreatDoor
open Go
theorem proxyMakes_inst : Tryz.f5.isInstance Tryz.pinned.checked.prog Rows.proxyMakesRow.origin Rows.proxyMakesRow.targs := of_decide_eq_true (by kernel_rfl)
theorem proxyMakes_fn : Tryz.pinned.checked.prog.funcNamed Rows.proxyMakesRow.func = some 5 := by kernel_rfl
theorem proxyMakes_wrap : Tryz.f5.isWrapper Tryz.pinned.checked.prog Rows.proxyMakesRow.wrapper Rows.proxyMakesRow.mainSum := by unfold Func.isWrapper; first | (rw [if_pos (by decide +kernel)]; kernel_rfl) | (rw [if_neg (by decide +kernel)]; exact ⟨rfl, rfl⟩)
end Go.Proofs.YtljjaiijlaeoeaaGreatDoor
