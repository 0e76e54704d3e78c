/- The law ProxyStates returns true at every input and leaves each argument as it was; condition: the listed package-level variables start as the program's text lays them (tied). -/
import Derived.Test.YtihjhdoinmfddaaGreatDoorCards
import Derived.Test.YtihjhdoinmfddaaGreatDoorTie
import Derived.Test.YtihjhdoinmfddaaGreatDoorGenN6
import Derived.Test.YtihjhdoinmfddaaGreatDoorStC
import Derived.Test.YtihjhdoinmfddaaGreatDoorEng13
import Derived.ProofKit
import Derived.OpenShut
import Derived.Deep.DeepHandedRow
import Derived.Lib.LaidIn
import Derived.LaidHandle
import Derived.Test.YtihjhdoinmfddaaGreatDoorEndBProxyStates
import Derived.Test.YtihjhdoinmfddaaGreatDoorEndQProxyStates
import Derived.Test.YtihjhdoinmfddaaGreatDoorEndRProxyStates
namespace Go.Proofs.YtihjhdoinmfddaaGreatDoor
open Go.ChangeShapes Go.WideShapes Go.ChangeAt Go.RowKit Go.Eng Go.Eng.Pure Go.VI
set_option linter.unusedSimpArgs false
theorem proxyStates_card:Rows.ProxyStatesCardSaid :=
  Claim7.holds_tied_plain_at .later [] _ _ _ _ proxyStates_said (fun _ h=>by cases h) (by kernel_rfl) (fun _ h=>by cases h) proxyStates_row_tie rfl ⟨rfl,rfl⟩ (by kernel_rfl) rfl proxyStates_plain proxyStates_goes
#print axioms proxyStates_card
end Go.Proofs.YtihjhdoinmfddaaGreatDoor
