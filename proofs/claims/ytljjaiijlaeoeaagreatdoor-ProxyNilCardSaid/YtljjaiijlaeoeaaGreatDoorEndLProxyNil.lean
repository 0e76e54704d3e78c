/- A part of the proof: a closed fact of the program (unfollowed). -/
import Derived.Test.YtljjaiijlaeoeaaGreatDoorCards
import Derived.Test.YtljjaiijlaeoeaaGreatDoorTie
import Derived.KernelRfl
namespace Go.Proofs.YtljjaiijlaeoeaaGreatDoor
open Go
theorem proxyNil_unfollowed : (Rows.proxyNilRow.unfollowed == Tryz.pinned.checked.prog.unfollowed 6) = true := by kernel_rfl
end Go.Proofs.YtljjaiijlaeoeaaGreatDoor
