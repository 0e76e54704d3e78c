/- A part of the proof: the function is no instance. -/
import Derived.Test.YtljjaiijlaeoeaaGreatDoorCards
import Derived.Test.YtljjaiijlaeoeaaGreatDoorTie
import Derived.KernelRfl
import Derived.JoinedCond
import Derived.Test.YtljjaiijlaeoeaaGreatDoorEndKProxyTicks
import Derived.Test.YtljjaiijlaeoeaaGreatDoorEndLProxyTicks
import Derived.Test.YtljjaiijlaeoeaaGreatDoorEndMProxyTicks
import Derived.Test.YtljjaiijlaeoeaaGreatDoorEndNProxyTicks
namespace Go.Proofs.YtljjaiijlaeoeaaGreatDoor
open Go
theorem proxyTicks_inst : Tryz.f4.isInstance Tryz.pinned.checked.prog Rows.proxyTicksRow.origin Rows.proxyTicksRow.targs := of_decide_eq_true (by kernel_rfl)
theorem proxyTicks_fn : Tryz.pinned.checked.prog.funcNamed Rows.proxyTicksRow.func = some 4 := by kernel_rfl
theorem proxyTicks_wrap : Tryz.f4.isWrapper Tryz.pinned.checked.prog Rows.proxyTicksRow.wrapper Rows.proxyTicksRow.mainSum := by unfold Func.isWrapper; first | (rw [if_pos (by decide +kernel)]; kernel_rfl) | (rw [if_neg (by decide +kernel)]; exact ⟨rfl, rfl⟩)
end Go.Proofs.YtljjaiijlaeoeaaGreatDoor
