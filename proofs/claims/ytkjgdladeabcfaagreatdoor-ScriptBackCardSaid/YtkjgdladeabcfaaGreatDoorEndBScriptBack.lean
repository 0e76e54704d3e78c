/- A part of the proof: the row is said. -/
import Derived.Test.YtkjgdladeabcfaaGreatDoorCards
import Derived.Test.YtkjgdladeabcfaaGreatDoorTie
import Derived.Test.YtkjgdladeabcfaaGreatDoorGenX5
import Derived.Test.YtkjgdladeabcfaaGreatDoorScriptC
import Derived.Test.YtkjgdladeabcfaaGreatDoorEng20
import Derived.ProofKit
import Derived.OpenShut
import Derived.Deep.DeepHandedRow
import Derived.Lib.LaidIn
import Derived.LaidHandle
import Derived.Test.YtkjgdladeabcfaaGreatDoorEndAScriptBack
import Derived.Test.YtkjgdladeabcfaaGreatDoorEndKScriptBack
import Derived.Test.YtkjgdladeabcfaaGreatDoorEndLScriptBack
import Derived.Test.YtkjgdladeabcfaaGreatDoorEndMScriptBack
import Derived.Test.YtkjgdladeabcfaaGreatDoorEndNScriptBack
import Derived.Test.YtkjgdladeabcfaaGreatDoorEndOScriptBack
import Derived.Test.YtkjgdladeabcfaaGreatDoorEndPScriptBack
namespace Go.Proofs.YtkjgdladeabcfaaGreatDoor
open Go.ChangeShapes Go.WideShapes Go.ChangeAt Go.RowKit Go.Eng Go.Eng.Pure
set_option linter.unusedSimpArgs false
theorem scriptBack_said:Rows.ScriptBackSaid :=
  OpenClaim.holds_of_cond 4 Tryz.f4 rfl rfl rfl rfl rfl rfl rfl ⟨rfl,rfl,rfl,rfl,rfl⟩ rfl rfl rfl rfl rfl scriptBack_fn Tryz.func4 scriptBack_closed scriptBack_inst scriptBack_wrap
    (fun os started H enc _ F=>by rw [OpenClaim.pre_eq_preRow]; exact scriptBack_lifted os started H enc F)
end Go.Proofs.YtkjgdladeabcfaaGreatDoor
