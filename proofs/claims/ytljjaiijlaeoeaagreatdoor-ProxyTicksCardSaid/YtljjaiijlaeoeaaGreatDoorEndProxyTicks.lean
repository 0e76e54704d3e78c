/- The law ProxyTicks returns true at every input and leaves each argument as it was; condition: the listed package-level variables start as the program's text lays them (tied). -/
import Derived.Test.YtljjaiijlaeoeaaGreatDoorCards
import Derived.Test.YtljjaiijlaeoeaaGreatDoorTie
import Derived.Test.YtljjaiijlaeoeaaGreatDoorGenP21
import Derived.Test.YtljjaiijlaeoeaaGreatDoorProxA
import Derived.Test.YtljjaiijlaeoeaaGreatDoorEng13
import Derived.ProofKit
import Derived.OpenShut
import Derived.Deep.DeepHandedRow
import Derived.Lib.LaidIn
import Derived.LaidHandle
import Derived.Test.YtljjaiijlaeoeaaGreatDoorEndBProxyTicks
import Derived.Test.YtljjaiijlaeoeaaGreatDoorEndQProxyTicks
import Derived.Test.YtljjaiijlaeoeaaGreatDoorEndRProxyTicks
namespace Go.Proofs.YtljjaiijlaeoeaaGreatDoor
open Go.ChangeShapes Go.WideShapes Go.ChangeAt Go.RowKit Go.Eng Go.Eng.Pure
set_option linter.unusedSimpArgs false
theorem proxyTicks_card : Rows.ProxyTicksCardSaid :=
  Claim7.holds_tied_plain_at .later [] _ _ _ _ proxyTicks_said (fun _ h => by cases h) (by kernel_rfl) (fun _ h => by cases h) proxyTicks_row_tie rfl ⟨rfl, rfl⟩ (by kernel_rfl) rfl proxyTicks_plain proxyTicks_goes
#print axioms proxyTicks_card
end Go.Proofs.YtljjaiijlaeoeaaGreatDoor
