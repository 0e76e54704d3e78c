/- The law ProxyOwn returns true at every input and leaves each argument as it was; condition: the listed package-level variables start as the program's text lays them (tied). -/
import Derived.Test.YtljjaiijlaeoeaaGreatDoorCards
import Derived.Test.YtljjaiijlaeoeaaGreatDoorTie
import Derived.Test.YtljjaiijlaeoeaaGreatDoorGenP27
import Derived.Test.YtljjaiijlaeoeaaGreatDoorProxA
import Derived.Test.YtljjaiijlaeoeaaGreatDoorEng13
import Derived.ProofKit
import Derived.OpenShut
import Derived.Deep.DeepHandedRow
import Derived.Lib.LaidIn
import Derived.LaidHandle
import Derived.Test.YtljjaiijlaeoeaaGreatDoorEndBProxyOwn
import Derived.Test.YtljjaiijlaeoeaaGreatDoorEndQProxyOwn
import Derived.Test.YtljjaiijlaeoeaaGreatDoorEndRProxyOwn
namespace Go.Proofs.YtljjaiijlaeoeaaGreatDoor
open Go.ChangeShapes Go.WideShapes Go.ChangeAt Go.RowKit Go.Eng Go.Eng.Pure
set_option linter.unusedSimpArgs false
theorem proxyOwn_card:Rows.ProxyOwnCardSaid :=
  Claim7.holds_tied_plain_at .later [] _ _ _ _ proxyOwn_said (fun _ h=>by cases h) (by kernel_rfl) (fun _ h=>by cases h) proxyOwn_row_tie rfl ⟨rfl,rfl⟩ (by kernel_rfl) rfl proxyOwn_plain proxyOwn_goes
#print axioms proxyOwn_card
end Go.Proofs.YtljjaiijlaeoeaaGreatDoor
