/- A part of the proof: the row is said. -/
import Derived.Test.YtljjaiijlaeoeaaGreatDoorCards
import Derived.Test.YtljjaiijlaeoeaaGreatDoorTie
import Derived.Test.YtljjaiijlaeoeaaGreatDoorGenP21
import Derived.Test.YtljjaiijlaeoeaaGreatDoorProxA
import Derived.Test.YtljjaiijlaeoeaaGreatDoorEng13
import Derived.ProofKit
import Derived.OpenShut
import Derived.Deep.DeepHandedRow
import Derived.Lib.LaidIn
import Derived.LaidHandle
import Derived.Test.YtljjaiijlaeoeaaGreatDoorEndAProxyNil
import Derived.Test.YtljjaiijlaeoeaaGreatDoorEndKProxyNil
import Derived.Test.YtljjaiijlaeoeaaGreatDoorEndLProxyNil
import Derived.Test.YtljjaiijlaeoeaaGreatDoorEndMProxyNil
import Derived.Test.YtljjaiijlaeoeaaGreatDoorEndNProxyNil
import Derived.Test.YtljjaiijlaeoeaaGreatDoorEndOProxyNil
import Derived.Test.YtljjaiijlaeoeaaGreatDoorEndPProxyNil
namespace Go.Proofs.YtljjaiijlaeoeaaGreatDoor
open Go.ChangeShapes Go.WideShapes Go.ChangeAt Go.RowKit Go.Eng Go.Eng.Pure
set_option linter.unusedSimpArgs false
theorem proxyNil_said:Rows.ProxyNilSaid :=
  OpenClaim.holds_of_cond 6 Tryz.f6 rfl rfl rfl rfl rfl rfl rfl ⟨rfl,rfl,rfl,rfl,rfl⟩ rfl rfl rfl rfl rfl proxyNil_fn Tryz.func6 proxyNil_closed proxyNil_inst proxyNil_wrap
    (fun os started H enc _ F=>by rw [OpenClaim.pre_eq_preRow]; exact proxyNil_lifted os started H enc F)
end Go.Proofs.YtljjaiijlaeoeaaGreatDoor
