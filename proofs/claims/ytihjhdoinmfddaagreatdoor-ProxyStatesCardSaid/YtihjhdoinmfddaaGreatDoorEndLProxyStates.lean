/- A part of the proof: a closed fact of the program (unfollowed). -/
import Derived.Test.YtihjhdoinmfddaaGreatDoorCards
import Derived.Test.YtihjhdoinmfddaaGreatDoorTie
import Derived.KernelRfl
namespace Go.Proofs.YtihjhdoinmfddaaGreatDoor
open Go
theorem proxyStates_unfollowed : (Rows.proxyStatesRow.unfollowed == Tryz.pinned.checked.prog.unfollowed 3) = true := by kernel_rfl
end Go.Proofs.YtihjhdoinmfddaaGreatDoor
