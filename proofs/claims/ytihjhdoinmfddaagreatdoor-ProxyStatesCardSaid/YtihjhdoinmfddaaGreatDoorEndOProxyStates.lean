/- A part of the proof: the other closed facts of the program. -/
import Derived.Test.YtihjhdoinmfddaaGreatDoorCards
import Derived.Test.YtihjhdoinmfddaaGreatDoorTie
import Derived.KernelRfl
import Derived.JoinedCond
import Derived.Test.YtihjhdoinmfddaaGreatDoorEndKProxyStates
import Derived.Test.YtihjhdoinmfddaaGreatDoorEndLProxyStates
import Derived.Test.YtihjhdoinmfddaaGreatDoorEndMProxyStates
import Derived.Test.YtihjhdoinmfddaaGreatDoorEndNProxyStates
namespace Go.Proofs.YtihjhdoinmfddaaGreatDoor
open Go
theorem proxyStates_closed : joinedFacts Tryz.pinned.checked.prog 3 Tryz.f3 (OpenSpec.ofChange Rows.proxyStatesSpec).bare Rows.proxyStatesRow = true := by
  simp only [joinedFacts, Bool.and_eq_true]
  repeat' apply And.intro
  all_goals first | with_reducible exact proxyStates_inPlace | with_reducible exact proxyStates_unfollowed | with_reducible exact proxyStates_recurses | with_reducible exact proxyStates_named | kernel_rfl
end Go.Proofs.YtihjhdoinmfddaaGreatDoor
