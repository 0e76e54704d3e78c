/- A part of the proof: the function is no instance. -/
import Derived.Test.YtljjaiijlaeoeaaGreatDoorCards
import Derived.Test.YtljjaiijlaeoeaaGreatDoorTie
import Derived.KernelRfl
import Derived.JoinedCond
import Derived.Test.YtljjaiijlaeoeaaGreatDoorEndKProxyOwn
import Derived.Test.YtljjaiijlaeoeaaGreatDoorEndLProxyOwn
import Derived.Test.YtljjaiijlaeoeaaGreatDoorEndMProxyOwn
import Derived.Test.YtljjaiijlaeoeaaGreatDoorEndNProxyOwn
namespace Go.Proofs.YtljjaiijlaeoeaaGreatDoor
open Go
theorem proxyOwn_inst : Tryz.f3.isInstance Tryz.pinned.checked.prog Rows.proxyOwnRow.origin Rows.proxyOwnRow.targs := of_decide_eq_true (by kernel_rfl)
theorem proxyOwn_fn : Tryz.pinned.checked.prog.funcNamed Rows.proxyOwnRow.func = some 3 := by kernel_rfl
theorem proxyOwn_wrap : Tryz.f3.isWrapper Tryz.pinned.checked.prog Rows.proxyOwnRow.wrapper Rows.proxyOwnRow.mainSum := by unfold Func.isWrapper; first | (rw [if_pos (by decide +kernel)]; kernel_rfl) | (rw [if_neg (by decide +kernel)]; exact ⟨rfl, rfl⟩)
end Go.Proofs.YtljjaiijlaeoeaaGreatDoor
