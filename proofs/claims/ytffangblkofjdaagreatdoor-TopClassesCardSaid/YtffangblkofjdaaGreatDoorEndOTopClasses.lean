/- A part of the proof: the other closed facts of the program. -/
import Derived.Test.YtffangblkofjdaaGreatDoorCards
import Derived.Test.YtffangblkofjdaaGreatDoorTie
import Derived.KernelRfl
import Derived.JoinedCond
import Derived.Test.YtffangblkofjdaaGreatDoorEndKTopClasses
import Derived.Test.YtffangblkofjdaaGreatDoorEndLTopClasses
import Derived.Test.YtffangblkofjdaaGreatDoorEndMTopClasses
import Derived.Test.YtffangblkofjdaaGreatDoorEndNTopClasses
namespace Go.Proofs.YtffangblkofjdaaGreatDoor
open Go
theorem topClasses_closed : joinedFacts Tryz.pinned.checked.prog 3 Tryz.f3 (OpenSpec.ofChange Rows.topClassesSpec).bare Rows.topClassesRow = true := by
  simp only [joinedFacts, Bool.and_eq_true]
  repeat' apply And.intro
  all_goals first | with_reducible exact topClasses_inPlace | with_reducible exact topClasses_unfollowed | with_reducible exact topClasses_recurses | with_reducible exact topClasses_named | kernel_rfl
end Go.Proofs.YtffangblkofjdaaGreatDoor
