/- A part of the proof: a closed fact of the program (inPlace). -/
import Derived.Test.YtljjaiijlaeoeaaGreatDoorCards
import Derived.Test.YtljjaiijlaeoeaaGreatDoorTie
import Derived.KernelRfl
namespace Go.Proofs.YtljjaiijlaeoeaaGreatDoor
open Go
theorem proxyMakes_inPlace : (Rows.proxyMakesRow.inPlace == Tryz.pinned.checked.prog.inPlace 5) = true := by kernel_rfl
end Go.Proofs.YtljjaiijlaeoeaaGreatDoor
