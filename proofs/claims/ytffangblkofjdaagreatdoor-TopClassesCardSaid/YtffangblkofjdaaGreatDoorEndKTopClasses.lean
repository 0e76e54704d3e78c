/- A part of the proof: a closed fact of the program (inPlace). -/
import Derived.Test.YtffangblkofjdaaGreatDoorCards
import Derived.Test.YtffangblkofjdaaGreatDoorTie
import Derived.KernelRfl
namespace Go.Proofs.YtffangblkofjdaaGreatDoor
open Go
theorem topClasses_inPlace : (Rows.topClassesRow.inPlace == Tryz.pinned.checked.prog.inPlace 3) = true := by kernel_rfl
end Go.Proofs.YtffangblkofjdaaGreatDoor
