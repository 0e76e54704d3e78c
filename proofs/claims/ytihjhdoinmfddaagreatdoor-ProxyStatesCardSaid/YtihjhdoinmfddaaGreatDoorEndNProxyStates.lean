/- A part of the proof: a closed fact of the program (named). -/
import Derived.Test.YtihjhdoinmfddaaGreatDoorCards
import Derived.Test.YtihjhdoinmfddaaGreatDoorTie
import Derived.KernelRfl
namespace Go.Proofs.YtihjhdoinmfddaaGreatDoor
open Go
theorem proxyStates_named : (Rows.proxyStatesRow.named == Tryz.pinned.checked.prog.varsNamed 3) = true := by kernel_rfl
end Go.Proofs.YtihjhdoinmfddaaGreatDoor
