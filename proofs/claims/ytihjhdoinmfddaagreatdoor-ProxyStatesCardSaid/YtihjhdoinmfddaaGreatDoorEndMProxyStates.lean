/- A part of the proof: a closed fact of the program (recurses). -/
import Derived.Test.YtihjhdoinmfddaaGreatDoorCards
import Derived.Test.YtihjhdoinmfddaaGreatDoorTie
import Derived.KernelRfl
namespace Go.Proofs.YtihjhdoinmfddaaGreatDoor
open Go
theorem proxyStates_recurses : (Rows.proxyStatesRow.recurses == Tryz.pinned.checked.prog.recurses 3) = true := by kernel_rfl
end Go.Proofs.YtihjhdoinmfddaaGreatDoor
