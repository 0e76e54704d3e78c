/- A part of the proof: a closed fact of the program (named). -/
import Derived.Test.YtffangblkofjdaaGreatDoorCards
import Derived.Test.YtffangblkofjdaaGreatDoorTie
import Derived.KernelRfl
namespace Go.Proofs.YtffangblkofjdaaGreatDoor
open Go
theorem topClasses_named : (Rows.topClassesRow.named == Tryz.pinned.checked.prog.varsNamed 3) = true := by kernel_rfl
end Go.Proofs.YtffangblkofjdaaGreatDoor
