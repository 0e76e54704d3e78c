/- A part of the proof: a closed fact of the program (unfollowed). -/
import Derived.Test.YtffangblkofjdaaGreatDoorCards
import Derived.Test.YtffangblkofjdaaGreatDoorTie
import Derived.KernelRfl
namespace Go.Proofs.YtffangblkofjdaaGreatDoor
open Go
theorem topClasses_unfollowed : (Rows.topClassesRow.unfollowed == Tryz.pinned.checked.prog.unfollowed 3) = true := by kernel_rfl
end Go.Proofs.YtffangblkofjdaaGreatDoor
