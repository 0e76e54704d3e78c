/- A part of the proof: a closed fact of the program (recurses). -/
import Derived.Test.YtljjaiijlaeoeaaGreatDoorCards
import Derived.Test.YtljjaiijlaeoeaaGreatDoorTie
import Derived.KernelRfl
namespace Go.Proofs.YtljjaiijlaeoeaaGreatDoor
open Go
theorem proxyMakes_recurses : (Rows.proxyMakesRow.recurses == Tryz.pinned.checked.prog.recurses 5) = true := by kernel_rfl
end Go.Proofs.YtljjaiijlaeoeaaGreatDoor
