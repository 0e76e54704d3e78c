/- A part of the proof: a closed fact of the program (named). -/
import Derived.Test.YtkjgdladeabcfaaGreatDoorCards
import Derived.Test.YtkjgdladeabcfaaGreatDoorTie
import Derived.KernelRfl
namespace Go.Proofs.YtkjgdladeabcfaaGreatDoor
open Go
theorem scriptEscapes_named : (Rows.scriptEscapesRow.named == Tryz.pinned.checked.prog.varsNamed 3) = true := by kernel_rfl
end Go.Proofs.YtkjgdladeabcfaaGreatDoor
