/- The law TopClasses returns true at every input and leaves each argument as it was; condition: the listed package-level variables start as the program's text lays them (tied). -/
import Derived.Test.YtffangblkofjdaaGreatDoorCards
import Derived.Test.YtffangblkofjdaaGreatDoorTie
import Derived.Test.YtffangblkofjdaaGreatDoorGenM6
import Derived.Test.YtffangblkofjdaaGreatDoorTopC
import Derived.Test.YtffangblkofjdaaGreatDoorEng14
import Derived.ProofKit
import Derived.OpenShut
import Derived.Deep.DeepHandedRow
import Derived.Lib.LaidIn
import Derived.LaidHandle
import Derived.Test.YtffangblkofjdaaGreatDoorEndBTopClasses
import Derived.Test.YtffangblkofjdaaGreatDoorEndQTopClasses
import Derived.Test.YtffangblkofjdaaGreatDoorEndRTopClasses
namespace Go.Proofs.YtffangblkofjdaaGreatDoor
open Go.ChangeShapes Go.WideShapes Go.ChangeAt Go.RowKit Go.Eng Go.Eng.Pure
set_option linter.unusedSimpArgs false
theorem topClasses_card:Rows.TopClassesCardSaid :=
  Claim7.holds_tied_plain_at .later [] _ _ _ _ topClasses_said (fun _ h=>by cases h) (by kernel_rfl) (fun _ h=>by cases h) topClasses_row_tie rfl ⟨rfl,rfl⟩ (by kernel_rfl) rfl topClasses_plain topClasses_goes
#print axioms topClasses_card
end Go.Proofs.YtffangblkofjdaaGreatDoor
