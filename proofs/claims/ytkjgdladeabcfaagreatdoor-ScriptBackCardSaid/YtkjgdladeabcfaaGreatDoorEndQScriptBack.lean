/- A part of the proof: a closed fact of the program (goesBy). -/
import Derived.Test.YtkjgdladeabcfaaGreatDoorCards
import Derived.Test.YtkjgdladeabcfaaGreatDoorTie
import Derived.KernelRfl
namespace Go.Proofs.YtkjgdladeabcfaaGreatDoor
open Go
theorem scriptBack_goes : false = Rows.scriptBackRow.goesBy Tryz.pinned.checked.prog := by kernel_rfl
end Go.Proofs.YtkjgdladeabcfaaGreatDoor
