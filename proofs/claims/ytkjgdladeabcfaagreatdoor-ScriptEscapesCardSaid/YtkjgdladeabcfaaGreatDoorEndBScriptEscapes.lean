/- A part of the proof: the row is said. -/
import Derived.Test.YtkjgdladeabcfaaGreatDoorCards
import Derived.Test.YtkjgdladeabcfaaGreatDoorTie
import Derived.Test.YtkjgdladeabcfaaGreatDoorGenX5
import Derived.Test.YtkjgdladeabcfaaGreatDoorScriptC
import Derived.Test.YtkjgdladeabcfaaGreatDoorEng15
import Derived.ProofKit
import Derived.OpenShut
import Derived.Deep.DeepHandedRow
import Derived.Lib.LaidIn
import Derived.LaidHandle
import Derived.Test.YtkjgdladeabcfaaGreatDoorEndAScriptEscapes
import Derived.Test.YtkjgdladeabcfaaGreatDoorEndKScriptEscapes
import Derived.Test.YtkjgdladeabcfaaGreatDoorEndLScriptEscapes
import Derived.Test.YtkjgdladeabcfaaGreatDoorEndMScriptEscapes
import Derived.Test.YtkjgdladeabcfaaGreatDoorEndNScriptEscapes
import Derived.Test.YtkjgdladeabcfaaGreatDoorEndOScriptEscapes
import Derived.Test.YtkjgdladeabcfaaGreatDoorEndPScriptEscapes
namespace Go.Proofs.YtkjgdladeabcfaaGreatDoor
open Go.ChangeShapes Go.WideShapes Go.ChangeAt Go.RowKit Go.Eng Go.Eng.Pure
set_option linter.unusedSimpArgs false
theorem scriptEscapes_said:Rows.ScriptEscapesSaid :=
  OpenClaim.holds_of_cond 3 Tryz.f3 rfl rfl rfl rfl rfl rfl rfl ⟨rfl,rfl,rfl,rfl,rfl⟩ rfl rfl rfl rfl rfl scriptEscapes_fn Tryz.func3 scriptEscapes_closed scriptEscapes_inst scriptEscapes_wrap
    (fun os started H enc _ F=>by rw [OpenClaim.pre_eq_preRow]; exact scriptEscapes_lifted os started H enc F)
end Go.Proofs.YtkjgdladeabcfaaGreatDoor
