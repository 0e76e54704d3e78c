/- The law ScriptBack returns true at every input and leaves each argument as it was; condition: the listed package-level variables start as the program's text lays them (tied). -/
import Derived.Test.YtkjgdladeabcfaaGreatDoorCards
import Derived.Test.YtkjgdladeabcfaaGreatDoorTie
import Derived.Test.YtkjgdladeabcfaaGreatDoorGenX5
import Derived.Test.YtkjgdladeabcfaaGreatDoorScriptC
import Derived.Test.YtkjgdladeabcfaaGreatDoorEng20
import Derived.ProofKit
import Derived.OpenShut
import Derived.Deep.DeepHandedRow
import Derived.Lib.LaidIn
import Derived.LaidHandle
import Derived.Test.YtkjgdladeabcfaaGreatDoorEndBScriptBack
import Derived.Test.YtkjgdladeabcfaaGreatDoorEndQScriptBack
import Derived.Test.YtkjgdladeabcfaaGreatDoorEndRScriptBack
namespace Go.Proofs.YtkjgdladeabcfaaGreatDoor
open Go.ChangeShapes Go.WideShapes Go.ChangeAt Go.RowKit Go.Eng Go.Eng.Pure
set_option linter.unusedSimpArgs false
theorem scriptBack_card:Rows.ScriptBackCardSaid :=
  Claim7.holds_tied_plain_at .later [] _ _ _ _ scriptBack_said (fun _ h=>by cases h) (by kernel_rfl) (fun _ h=>by cases h) scriptBack_row_tie rfl ⟨rfl,rfl⟩ (by kernel_rfl) rfl scriptBack_plain scriptBack_goes
#print axioms scriptBack_card
end Go.Proofs.YtkjgdladeabcfaaGreatDoor
