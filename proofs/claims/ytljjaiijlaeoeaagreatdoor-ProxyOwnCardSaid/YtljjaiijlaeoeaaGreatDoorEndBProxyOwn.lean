/- A part of the proof: the row is said. -/
import Derived.Test.YtljjaiijlaeoeaaGreatDoorCards
import Derived.Test.YtljjaiijlaeoeaaGreatDoorTie
import Derived.Test.YtljjaiijlaeoeaaGreatDoorGenP27
import Derived.Test.YtljjaiijlaeoeaaGreatDoorProxA
import Derived.Test.YtljjaiijlaeoeaaGreatDoorEng13
import Derived.ProofKit
import Derived.OpenShut
import Derived.Deep.DeepHandedRow
import Derived.Lib.LaidIn
import Derived.LaidHandle
import Derived.Test.YtljjaiijlaeoeaaGreatDoorEndAProxyOwn
import Derived.Test.YtljjaiijlaeoeaaGreatDoorEndKProxyOwn
import Derived.Test.YtljjaiijlaeoeaaGreatDoorEndLProxyOwn
import Derived.Test.YtljjaiijlaeoeaaGreatDoorEndMProxyOwn
import Derived.Test.YtljjaiijlaeoeaaGreatDoorEndNProxyOwn
import Derived.Test.YtljjaiijlaeoeaaGreatDoorEndOProxyOwn
import Derived.Test.YtljjaiijlaeoeaaGreatDoorEndPProxyOwn
namespace Go.Proofs.YtljjaiijlaeoeaaGreatDoor
open Go.ChangeShapes Go.WideShapes Go.ChangeAt Go.RowKit Go.Eng Go.Eng.Pure
set_option linter.unusedSimpArgs false
theorem proxyOwn_said:Rows.ProxyOwnSaid :=
  OpenClaim.holds_of_cond 3 Tryz.f3 rfl rfl rfl rfl rfl rfl rfl ⟨rfl,rfl,rfl,rfl,rfl⟩ rfl rfl rfl rfl rfl proxyOwn_fn Tryz.func3 proxyOwn_closed proxyOwn_inst proxyOwn_wrap
    (fun os started H enc _ F=>by rw [OpenClaim.pre_eq_preRow]; exact proxyOwn_lifted os started H enc F)
end Go.Proofs.YtljjaiijlaeoeaaGreatDoor
