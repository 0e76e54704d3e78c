/- A part of the proof: the other closed facts of the program. -/
import Derived.Test.YtljjaiijlaeoeaaGreatDoorCards
import Derived.Test.YtljjaiijlaeoeaaGreatDoorTie
import Derived.KernelRfl
import Derived.JoinedCond
import Derived.Test.YtljjaiijlaeoeaaGreatDoorEndKProxyNil
import Derived.Test.YtljjaiijlaeoeaaGreatDoorEndLProxyNil
import Derived.Test.YtljjaiijlaeoeaaGreatDoorEndMProxyNil
import Derived.Test.YtljjaiijlaeoeaaGreatDoorEndNProxyNil
namespace Go.Proofs.YtljjaiijlaeoeaaGreatDoor
open Go
theorem proxyNil_closed : joinedFacts Tryz.pinned.checked.prog 6 Tryz.f6 (OpenSpec.ofChange Rows.proxyNilSpec).bare Rows.proxyNilRow = true := by
  simp only [joinedFacts, Bool.and_eq_true]
  repeat' apply And.intro
  all_goals first | with_reducible exact proxyNil_inPlace | with_reducible exact proxyNil_unfollowed | with_reducible exact proxyNil_recurses | with_reducible exact proxyNil_named | kernel_rfl
end Go.Proofs.YtljjaiijlaeoeaaGreatDoor
