/- A part of the proof: the row is said. -/
import Derived.Test.YtljjaiijlaeoeaaGreatDoorCards
import Derived.Test.YtljjaiijlaeoeaaGreatDoorTie
import Derived.Test.YtljjaiijlaeoeaaGreatDoorGenP23
import Derived.Test.YtljjaiijlaeoeaaGreatDoorProxA
import Derived.Test.YtljjaiijlaeoeaaGreatDoorEng13
import Derived.ProofKit
import Derived.OpenShut
import Derived.Deep.DeepHandedRow
import Derived.Lib.LaidIn
import Derived.LaidHandle
import Derived.Test.YtljjaiijlaeoeaaGreatDoorEndAProxyMakes
import Derived.Test.YtljjaiijlaeoeaaGreatDoorEndKProxyMakes
import Derived.Test.YtljjaiijlaeoeaaGreatDoorEndLProxyMakes
import Derived.Test.YtljjaiijlaeoeaaGreatDoorEndMProxyMakes
import Derived.Test.YtljjaiijlaeoeaaGreatDoorEndNProxyMakes
import Derived.Test.YtljjaiijlaeoeaaGreatDoorEndOProxyMakes
import Derived.Test.YtljjaiijlaeoeaaGreatDoorEndPProxyMakes
namespace Go.Proofs.YtljjaiijlaeoeaaGreatDoor
open Go.ChangeShapes Go.WideShapes Go.ChangeAt Go.RowKit Go.Eng Go.Eng.Pure
set_option linter.unusedSimpArgs false
theorem proxyMakes_said:Rows.ProxyMakesSaid :=
  OpenClaim.holds_of_cond 5 Tryz.f5 rfl rfl rfl rfl rfl rfl rfl ⟨rfl,rfl,rfl,rfl,rfl⟩ rfl rfl rfl rfl rfl proxyMakes_fn Tryz.func5 proxyMakes_closed proxyMakes_inst proxyMakes_wrap
    (fun os started H enc _ F=>by rw [OpenClaim.pre_eq_preRow]; exact proxyMakes_lifted os started H enc F)
end Go.Proofs.YtljjaiijlaeoeaaGreatDoor
