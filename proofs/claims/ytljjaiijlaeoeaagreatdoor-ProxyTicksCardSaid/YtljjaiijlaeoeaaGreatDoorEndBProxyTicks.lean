/- A part of the proof: the row is said. -/
import Derived.Test.YtljjaiijlaeoeaaGreatDoorCards
import Derived.Test.YtljjaiijlaeoeaaGreatDoorTie
import Derived.Test.YtljjaiijlaeoeaaGreatDoorGenP21
import Derived.Test.YtljjaiijlaeoeaaGreatDoorProxA
import Derived.Test.YtljjaiijlaeoeaaGreatDoorEng13
import Derived.ProofKit
import Derived.OpenShut
import Derived.Deep.DeepHandedRow
import Derived.Lib.LaidIn
import Derived.LaidHandle
import Derived.Test.YtljjaiijlaeoeaaGreatDoorEndAProxyTicks
import Derived.Test.YtljjaiijlaeoeaaGreatDoorEndKProxyTicks
import Derived.Test.YtljjaiijlaeoeaaGreatDoorEndLProxyTicks
import Derived.Test.YtljjaiijlaeoeaaGreatDoorEndMProxyTicks
import Derived.Test.YtljjaiijlaeoeaaGreatDoorEndNProxyTicks
import Derived.Test.YtljjaiijlaeoeaaGreatDoorEndOProxyTicks
import Derived.Test.YtljjaiijlaeoeaaGreatDoorEndPProxyTicks
namespace Go.Proofs.YtljjaiijlaeoeaaGreatDoor
open Go.ChangeShapes Go.WideShapes Go.ChangeAt Go.RowKit Go.Eng Go.Eng.Pure
set_option linter.unusedSimpArgs false
theorem proxyTicks_said : Rows.ProxyTicksSaid :=
  OpenClaim.holds_of_cond 4 Tryz.f4 rfl rfl rfl rfl rfl rfl rfl ⟨rfl, rfl, rfl, rfl, rfl⟩ rfl rfl rfl rfl rfl proxyTicks_fn Tryz.func4 proxyTicks_closed proxyTicks_inst proxyTicks_wrap
    (fun os started H enc _ F => by rw [OpenClaim.pre_eq_preRow]; exact proxyTicks_lifted os started H enc F)
end Go.Proofs.YtljjaiijlaeoeaaGreatDoor
