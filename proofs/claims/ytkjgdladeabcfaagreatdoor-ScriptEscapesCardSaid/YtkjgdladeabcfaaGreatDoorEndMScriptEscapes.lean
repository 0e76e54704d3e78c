/- A part of the proof: a closed fact of the program (recurses). -/
import Derived.Test.YtkjgdladeabcfaaGreatDoorCards
import Derived.Test.YtkjgdladeabcfaaGreatDoorTie
import Derived.KernelRfl
namespace Go.Proofs.YtkjgdladeabcfaaGreatDoor
open Go
theorem scriptEscapes_recurses : (Rows.scriptEscapesRow.recurses == Tryz.pinned.checked.prog.recurses 3) = true := by kernel_rfl
end Go.Proofs.YtkjgdladeabcfaaGreatDoor
