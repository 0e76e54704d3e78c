/- A part of the proof: a closed fact of the program (inPlace). -/
import Derived.Test.YtljjaiijlaeoeaaGreatDoorCards
import Derived.Test.YtljjaiijlaeoeaaGreatDoorTie
import Derived.KernelRfl
namespace Go.Proofs.YtljjaiijlaeoeaaGreatDoor
open Go
theorem proxyOwn_inPlace : (Rows.proxyOwnRow.inPlace == Tryz.pinned.checked.prog.inPlace 3) = true := by kernel_rfl
end Go.Proofs.YtljjaiijlaeoeaaGreatDoor
