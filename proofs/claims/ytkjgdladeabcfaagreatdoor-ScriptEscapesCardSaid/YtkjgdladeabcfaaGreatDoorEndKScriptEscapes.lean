/- A part of the proof: a closed fact of the program (inPlace). -/
import Derived.Test.YtkjgdladeabcfaaGreatDoorCards
import Derived.Test.YtkjgdladeabcfaaGreatDoorTie
import Derived.KernelRfl
namespace Go.Proofs.YtkjgdladeabcfaaGreatDoor
open Go
theorem scriptEscapes_inPlace : (Rows.scriptEscapesRow.inPlace == Tryz.pinned.checked.prog.inPlace 3) = true := by kernel_rfl
end Go.Proofs.YtkjgdladeabcfaaGreatDoor
