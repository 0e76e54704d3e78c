/- A part of the proof: the other closed facts of the program. -/
import Derived.Test.YtljjaiijlaeoeaaGreatDoorCards
import Derived.Test.YtljjaiijlaeoeaaGreatDoorTie
import Derived.KernelRfl
import Derived.JoinedCond
import Derived.Test.YtljjaiijlaeoeaaGreatDoorEndKProxyOwn
import Derived.Test.YtljjaiijlaeoeaaGreatDoorEndLProxyOwn
import Derived.Test.YtljjaiijlaeoeaaGreatDoorEndMProxyOwn
import Derived.Test.YtljjaiijlaeoeaaGreatDoorEndNProxyOwn
namespace Go.Proofs.YtljjaiijlaeoeaaGreatDoor
open Go
theorem proxyOwn_closed : joinedFacts Tryz.pinned.checked.prog 3 Tryz.f3 (OpenSpec.ofChange Rows.proxyOwnSpec).bare Rows.proxyOwnRow = true := by
  simp only [joinedFacts, Bool.and_eq_true]
  repeat' apply And.intro
  all_goals first | with_reducible exact proxyOwn_inPlace | with_reducible exact proxyOwn_unfollowed | with_reducible exact proxyOwn_recurses | with_reducible exact proxyOwn_named | kernel_rfl
end Go.Proofs.YtljjaiijlaeoeaaGreatDoor
