/- A part of the proof: the row is said. -/
import Derived.Test.YtihjhdoinmfddaaGreatDoorCards
import Derived.Test.YtihjhdoinmfddaaGreatDoorTie
import Derived.Test.YtihjhdoinmfddaaGreatDoorGenN6
import Derived.Test.YtihjhdoinmfddaaGreatDoorStC
import Derived.Test.YtihjhdoinmfddaaGreatDoorEng13
import Derived.ProofKit
import Derived.OpenShut
import Derived.Deep.DeepHandedRow
import Derived.Lib.LaidIn
import Derived.LaidHandle
import Derived.Test.YtihjhdoinmfddaaGreatDoorEndAProxyStates
import Derived.Test.YtihjhdoinmfddaaGreatDoorEndKProxyStates
import Derived.Test.YtihjhdoinmfddaaGreatDoorEndLProxyStates
import Derived.Test.YtihjhdoinmfddaaGreatDoorEndMProxyStates
import Derived.Test.YtihjhdoinmfddaaGreatDoorEndNProxyStates
import Derived.Test.YtihjhdoinmfddaaGreatDoorEndOProxyStates
import Derived.Test.YtihjhdoinmfddaaGreatDoorEndPProxyStates
namespace Go.Proofs.YtihjhdoinmfddaaGreatDoor
open Go.ChangeShapes Go.WideShapes Go.ChangeAt Go.RowKit Go.Eng Go.Eng.Pure Go.VI
set_option linter.unusedSimpArgs false
theorem proxyStates_said:Rows.ProxyStatesSaid :=
  OpenClaim.holds_of_cond 3 Tryz.f3 rfl rfl rfl rfl rfl rfl rfl ⟨rfl,rfl,rfl,rfl,rfl⟩ rfl rfl rfl rfl rfl proxyStates_fn Tryz.func3 proxyStates_closed proxyStates_inst proxyStates_wrap
    (fun os started H enc _ F=>by rw [OpenClaim.pre_eq_preRow]; exact proxyStates_lifted os started H enc F)
end Go.Proofs.YtihjhdoinmfddaaGreatDoor
