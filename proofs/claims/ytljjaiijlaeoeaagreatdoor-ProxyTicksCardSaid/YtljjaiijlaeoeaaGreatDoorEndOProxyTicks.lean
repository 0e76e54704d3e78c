/- A part of the proof: the other closed facts of the program. -/
import Derived.Test.YtljjaiijlaeoeaaGreatDoorCards
import Derived.Test.YtljjaiijlaeoeaaGreatDoorTie
import Derived.KernelRfl
import Derived.JoinedCond
import Derived.Test.YtljjaiijlaeoeaaGreatDoorEndKProxyTicks
import Derived.Test.YtljjaiijlaeoeaaGreatDoorEndLProxyTicks
import Derived.Test.YtljjaiijlaeoeaaGreatDoorEndMProxyTicks
import Derived.Test.YtljjaiijlaeoeaaGreatDoorEndNProxyTicks
namespace Go.Proofs.YtljjaiijlaeoeaaGreatDoor
open Go
theorem proxyTicks_closed : joinedFacts Tryz.pinned.checked.prog 4 Tryz.f4 (OpenSpec.ofChange Rows.proxyTicksSpec).bare Rows.proxyTicksRow = true := by
  simp only [joinedFacts, Bool.and_eq_true]
  repeat' apply And.intro
  all_goals first | with_reducible exact proxyTicks_inPlace | with_reducible exact proxyTicks_unfollowed | with_reducible exact proxyTicks_recurses | with_reducible exact proxyTicks_named | kernel_rfl
end Go.Proofs.YtljjaiijlaeoeaaGreatDoor
