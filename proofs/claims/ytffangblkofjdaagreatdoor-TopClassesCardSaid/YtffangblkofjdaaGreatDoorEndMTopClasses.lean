/- A part of the proof: a closed fact of the program (recurses). -/
import Derived.Test.YtffangblkofjdaaGreatDoorCards
import Derived.Test.YtffangblkofjdaaGreatDoorTie
import Derived.KernelRfl
namespace Go.Proofs.YtffangblkofjdaaGreatDoor
open Go
theorem topClasses_recurses : (Rows.topClassesRow.recurses == Tryz.pinned.checked.prog.recurses 3) = true := by kernel_rfl
end Go.Proofs.YtffangblkofjdaaGreatDoor
