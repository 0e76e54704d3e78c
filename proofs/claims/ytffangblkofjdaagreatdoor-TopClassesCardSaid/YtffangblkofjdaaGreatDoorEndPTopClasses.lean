/- A part of the proof: the function is no instance. -/
import Derived.Test.YtffangblkofjdaaGreatDoorCards
import Derived.Test.YtffangblkofjdaaGreatDoorTie
import Derived.KernelRfl
import Derived.JoinedCond
import Derived.Test.YtffangblkofjdaaGreatDoorEndKTopClasses
import Derived.Test.YtffangblkofjdaaGreatDoorEndLTopClasses
import Derived.Test.YtffangblkofjdaaGreatDoorEndMTopClasses
import Derived.Test.YtffangblkofjdaaGreatDoorEndNTopClasses
namespace Go.Proofs.YtffangblkofjdaaGreatDoor
open Go
theorem topClasses_inst : Tryz.f3.isInstance Tryz.pinned.checked.prog Rows.topClassesRow.origin Rows.topClassesRow.targs := of_decide_eq_true (by kernel_rfl)
theorem topClasses_fn : Tryz.pinned.checked.prog.funcNamed Rows.topClassesRow.func = some 3 := by kernel_rfl
theorem topClasses_wrap : Tryz.f3.isWrapper Tryz.pinned.checked.prog Rows.topClassesRow.wrapper Rows.topClassesRow.mainSum := by unfold Func.isWrapper; first | (rw [if_pos (by decide +kernel)]; kernel_rfl) | (rw [if_neg (by decide +kernel)]; exact ⟨rfl, rfl⟩)
end Go.Proofs.YtffangblkofjdaaGreatDoor
