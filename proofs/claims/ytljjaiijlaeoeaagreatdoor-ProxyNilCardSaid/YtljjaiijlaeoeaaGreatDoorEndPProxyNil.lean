/- A part of the proof: the function is no instance. -/
import Derived.Test.YtljjaiijlaeoeaaGreatDoorCards
import Derived.Test.YtljjaiijlaeoeaaGreatDoorTie
import Derived.KernelRfl
import Derived.JoinedCond
import Derived.Test.YtljjaiijlaeoeaaGreatDoorEndKProxyNil
import Derived.Test.YtljjaiijlaeoeaaGreatDoorEndLProxyNil
import Derived.Test.YtljjaiijlaeoeaaGreatDoorEndMProxyNil
import Derived.Test.YtljjaiijlaeoeaaGreatDoorEndNProxyNil
namespace Go.Proofs.YtljjaiijlaeoeaaGreatDoor
open Go
theorem proxyNil_inst : Tryz.f6.isInstance Tryz.pinned.checked.prog Rows.proxyNilRow.origin Rows.proxyNilRow.targs := of_decide_eq_true (by kernel_rfl)
theorem proxyNil_fn : Tryz.pinned.checked.prog.funcNamed Rows.proxyNilRow.func = some 6 := by kernel_rfl
theorem proxyNil_wrap : Tryz.f6.isWrapper Tryz.pinned.checked.prog Rows.proxyNilRow.wrapper Rows.proxyNilRow.mainSum := by unfold Func.isWrapper; first | (rw [if_pos (by decide +kernel)]; kernel_rfl) | (rw [if_neg (by decide +kernel)]; exact ⟨rfl, rfl⟩)
end Go.Proofs.YtljjaiijlaeoeaaGreatDoor
