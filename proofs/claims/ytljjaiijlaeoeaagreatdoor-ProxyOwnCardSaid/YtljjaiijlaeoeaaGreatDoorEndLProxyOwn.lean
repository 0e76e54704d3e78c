/- A part of the proof: a closed fact of the program (unfollowed). -/
import Derived.Test.YtljjaiijlaeoeaaGreatDoorCards
import Derived.Test.YtljjaiijlaeoeaaGreatDoorTie
import Derived.KernelRfl
namespace Go.Proofs.YtljjaiijlaeoeaaGreatDoor
open Go
theorem proxyOwn_unfollowed : (Rows.proxyOwnRow.unfollowed == Tryz.pinned.checked.prog.unfollowed 3) = true := by kernel_rfl
end Go.Proofs.YtljjaiijlaeoeaaGreatDoor
