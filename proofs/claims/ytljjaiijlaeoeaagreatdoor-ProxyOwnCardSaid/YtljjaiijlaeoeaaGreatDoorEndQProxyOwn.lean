/- A part of the proof: a closed fact of the program (goesBy). -/
import Derived.Test.YtljjaiijlaeoeaaGreatDoorCards
import Derived.Test.YtljjaiijlaeoeaaGreatDoorTie
import Derived.KernelRfl
namespace Go.Proofs.YtljjaiijlaeoeaaGreatDoor
open Go
theorem proxyOwn_goes : false = Rows.proxyOwnRow.goesBy Tryz.pinned.checked.prog := by kernel_rfl
end Go.Proofs.YtljjaiijlaeoeaaGreatDoor
