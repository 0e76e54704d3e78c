/- A part of the proof: the row is said. -/
import Derived.Test.YtffangblkofjdaaGreatDoorCards
import Derived.Test.YtffangblkofjdaaGreatDoorTie
import Derived.Test.YtffangblkofjdaaGreatDoorGenM6
import Derived.Test.YtffangblkofjdaaGreatDoorTopC
import Derived.Test.YtffangblkofjdaaGreatDoorEng14
import Derived.ProofKit
import Derived.OpenShut
import Derived.Deep.DeepHandedRow
import Derived.Lib.LaidIn
import Derived.LaidHandle
import Derived.Test.YtffangblkofjdaaGreatDoorEndATopClasses
import Derived.Test.YtffangblkofjdaaGreatDoorEndKTopClasses
import Derived.Test.YtffangblkofjdaaGreatDoorEndLTopClasses
import Derived.Test.YtffangblkofjdaaGreatDoorEndMTopClasses
import Derived.Test.YtffangblkofjdaaGreatDoorEndNTopClasses
import Derived.Test.YtffangblkofjdaaGreatDoorEndOTopClasses
import Derived.Test.YtffangblkofjdaaGreatDoorEndPTopClasses
namespace Go.Proofs.YtffangblkofjdaaGreatDoor
open Go.ChangeShapes Go.WideShapes Go.ChangeAt Go.RowKit Go.Eng Go.Eng.Pure
set_option linter.unusedSimpArgs false
theorem topClasses_said:Rows.TopClassesSaid :=
  OpenClaim.holds_of_cond 3 Tryz.f3 rfl rfl rfl rfl rfl rfl rfl ⟨rfl,rfl,rfl,rfl,rfl⟩ rfl rfl rfl rfl rfl topClasses_fn Tryz.func3 topClasses_closed topClasses_inst topClasses_wrap
    (fun os started H enc _ F=>by rw [OpenClaim.pre_eq_preRow]; exact topClasses_lifted os started H enc F)
end Go.Proofs.YtffangblkofjdaaGreatDoor
