/- A part of the proof: a closed fact of the program (unfollowed). -/
import Derived.Test.YtkjgdladeabcfaaGreatDoorCards
import Derived.Test.YtkjgdladeabcfaaGreatDoorTie
import Derived.KernelRfl
namespace Go.Proofs.YtkjgdladeabcfaaGreatDoor
open Go
theorem scriptBack_unfollowed : (Rows.scriptBackRow.unfollowed == Tryz.pinned.checked.prog.unfollowed 4) = true := by kernel_rfl
end Go.Proofs.YtkjgdladeabcfaaGreatDoor
