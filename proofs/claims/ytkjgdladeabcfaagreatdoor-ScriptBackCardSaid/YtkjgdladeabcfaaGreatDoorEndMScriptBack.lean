/- A part of the proof: a closed fact of the program (recurses). -/
import Derived.Test.YtkjgdladeabcfaaGreatDoorCards
import Derived.Test.YtkjgdladeabcfaaGreatDoorTie
import Derived.KernelRfl
namespace Go.Proofs.YtkjgdladeabcfaaGreatDoor
open Go
theorem scriptBack_recurses : (Rows.scriptBackRow.recurses == Tryz.pinned.checked.prog.recurses 4) = true := by kernel_rfl
end Go.Proofs.YtkjgdladeabcfaaGreatDoor
