/- A part of the proof: a closed fact of the program (unfollowed). -/
import Derived.Test.YtljjaiijlaeoeaaGreatDoorCards
import Derived.Test.YtljjaiijlaeoeaaGreatDoorTie
import Derived.KernelRfl
namespace Go.Proofs.YtljjaiijlaeoeaaGreatDoor
open Go
theorem proxyMakes_unfollowed : (Rows.proxyMakesRow.unfollowed == Tryz.pinned.checked.prog.unfollowed 5) = true := by kernel_rfl
end Go.Proofs.YtljjaiijlaeoeaaGreatDoor
