/- The law ProxyNil returns true at every input and leaves each argument as it was; condition: the listed package-level variables start as the program's text lays them (tied). -/
import Derived.Test.YtljjaiijlaeoeaaGreatDoorCards
import Derived.Test.YtljjaiijlaeoeaaGreatDoorTie
import Derived.Test.YtljjaiijlaeoeaaGreatDoorGenP21
import Derived.Test.YtljjaiijlaeoeaaGreatDoorProxA
import Derived.Test.YtljjaiijlaeoeaaGreatDoorEng13
import Derived.ProofKit
import Derived.OpenShut
import Derived.Deep.DeepHandedRow
import Derived.Lib.LaidIn
import Derived.LaidHandle
import Derived.Test.YtljjaiijlaeoeaaGreatDoorEndBProxyNil
import Derived.Test.YtljjaiijlaeoeaaGreatDoorEndQProxyNil
import Derived.Test.YtljjaiijlaeoeaaGreatDoorEndRProxyNil
namespace Go.Proofs.YtljjaiijlaeoeaaGreatDoor
open Go.ChangeShapes Go.WideShapes Go.ChangeAt Go.RowKit Go.Eng Go.Eng.Pure
set_option linter.unusedSimpArgs false
theorem proxyNil_card:Rows.ProxyNilCardSaid :=
  Claim7.holds_tied_plain_at .later [] _ _ _ _ proxyNil_said (fun _ h=>by cases h) (by kernel_rfl) (fun _ h=>by cases h) proxyNil_row_tie rfl ⟨rfl,rfl⟩ (by kernel_rfl) rfl proxyNil_plain proxyNil_goes
#print axioms proxyNil_card
end Go.Proofs.YtljjaiijlaeoeaaGreatDoor
