/- A part of the proof: the other closed facts of the program. -/
import Derived.Test.YtkjgdladeabcfaaGreatDoorCards
import Derived.Test.YtkjgdladeabcfaaGreatDoorTie
import Derived.KernelRfl
import Derived.JoinedCond
import Derived.Test.YtkjgdladeabcfaaGreatDoorEndKScriptBack
import Derived.Test.YtkjgdladeabcfaaGreatDoorEndLScriptBack
import Derived.Test.YtkjgdladeabcfaaGreatDoorEndMScriptBack
import Derived.Test.YtkjgdladeabcfaaGreatDoorEndNScriptBack
namespace Go.Proofs.YtkjgdladeabcfaaGreatDoor
open Go
theorem scriptBack_closed : joinedFacts Tryz.pinned.checked.prog 4 Tryz.f4 (OpenSpec.ofChange Rows.scriptBackSpec).bare Rows.scriptBackRow = true := by
  simp only [joinedFacts, Bool.and_eq_true]
  repeat' apply And.intro
  all_goals first | with_reducible exact scriptBack_inPlace | with_reducible exact scriptBack_unfollowed | with_reducible exact scriptBack_recurses | with_reducible exact scriptBack_named | kernel_rfl
end Go.Proofs.YtkjgdladeabcfaaGreatDoor
