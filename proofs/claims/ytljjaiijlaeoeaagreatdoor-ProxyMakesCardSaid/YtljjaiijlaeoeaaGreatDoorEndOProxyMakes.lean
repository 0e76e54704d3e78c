/- A part of the proof: the other closed facts of the program. -/
import Derived.Test.YtljjaiijlaeoeaaGreatDoorCards
import Derived.Test.YtljjaiijlaeoeaaGreatDoorTie
import Derived.KernelRfl
import Derived.JoinedCond
import Derived.Test.YtljjaiijlaeoeaaGreatDoorEndKProxyMakes
import Derived.Test.YtljjaiijlaeoeaaGreatDoorEndLProxyMakes
import Derived.Test.YtljjaiijlaeoeaaGreatDoorEndMProxyMakes
import Derived.Test.YtljjaiijlaeoeaaGreatDoorEndNProxyMakes
namespace Go.Proofs.YtljjaiijlaeoeaaGreatDoor
open Go
theorem proxyMakes_closed : joinedFacts Tryz.pinned.checked.prog 5 Tryz.f5 (OpenSpec.ofChange Rows.proxyMakesSpec).bare Rows.proxyMakesRow = true := by
  simp only [joinedFacts, Bool.and_eq_true]
  repeat' apply And.intro
  all_goals first | with_reducible exact proxyMakes_inPlace | with_reducible exact proxyMakes_unfollowed | with_reducible exact proxyMakes_recurses | with_reducible exact proxyMakes_named | kernel_rfl
end Go.Proofs.YtljjaiijlaeoeaaGreatDoor
