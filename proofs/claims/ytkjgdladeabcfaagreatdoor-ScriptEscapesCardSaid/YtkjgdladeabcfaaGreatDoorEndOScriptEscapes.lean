/- A part of the proof: the other closed facts of the program. -/
import Derived.Test.YtkjgdladeabcfaaGreatDoorCards
import Derived.Test.YtkjgdladeabcfaaGreatDoorTie
import Derived.KernelRfl
import Derived.JoinedCond
import Derived.Test.YtkjgdladeabcfaaGreatDoorEndKScriptEscapes
import Derived.Test.YtkjgdladeabcfaaGreatDoorEndLScriptEscapes
import Derived.Test.YtkjgdladeabcfaaGreatDoorEndMScriptEscapes
import Derived.Test.YtkjgdladeabcfaaGreatDoorEndNScriptEscapes
namespace Go.Proofs.YtkjgdladeabcfaaGreatDoor
open Go
theorem scriptEscapes_closed : joinedFacts Tryz.pinned.checked.prog 3 Tryz.f3 (OpenSpec.ofChange Rows.scriptEscapesSpec).bare Rows.scriptEscapesRow = true := by
  simp only [joinedFacts, Bool.and_eq_true]
  repeat' apply And.intro
  all_goals first | with_reducible exact scriptEscapes_inPlace | with_reducible exact scriptEscapes_unfollowed | with_reducible exact scriptEscapes_recurses | with_reducible exact scriptEscapes_named | kernel_rfl
end Go.Proofs.YtkjgdladeabcfaaGreatDoor
