/-
  DERIVED. GIVEN WITH THE SEED: THE CARDS: each row of YtffangblkofjdaaGreatDoorRows.lean that lists a variable, with what it lists TIED to the program's text (the seventh form; the later family's looks); each row that meets fmt, with fmt's text TOLD by the authors' own Lean function (tested against real Go, not proved from fmt's source: count such statements apart). THE CARD IS WHAT COUNTS. Prove the row's statement (the work); the ties are given (YtffangblkofjdaaGreatDoorTie.lean); close each card by the builder's one call (the guide's Derived/Test/ToyasCard.lean, 'card_holds'). Laid BY PROGRAM, IN A SANDBOX (cutbox-door.mjs). By AI agents, Wed Nov 11 2026. No macro, syntax, notation, axiom, sorry.
-/
import Derived.Test.YtffangblkofjdaaGreatDoorRows
import GoSem.ClaimSeven
namespace Go.Proofs.YtffangblkofjdaaGreatDoor
namespace Rows

/-- THE TIED CARD OF 'variantproxytop.TopClasses'. -/
def topClassesCard : Claim7 := { stood := { row := topClassesRow, standIns := [], harness := (true, "68eaf0e29105452dcb8ba0b700917cce5c07eecde578ef890f35c739498c50ef"), looks := true }, kinds := [], alts := [], laidByText := true, laidKinds := [.data, .data, .data, .data, .handle, .sentinel, .sentinel, .sentinel, .pinned], laidTests := true, laidLooks := .later }
def TopClassesCardSaid : Prop := Claim7.holds Tryz.pinned (.plain (OpenSpec.ofChange topClassesSpec)) topClassesCard

/-- THE SECOND FORM's CARD OF 'variantproxytop.TopClasses'. -/
def topClassesUptoCard : Claim7 := { stood := { row := topClassesUptoRow, standIns := [], harness := (true, "68eaf0e29105452dcb8ba0b700917cce5c07eecde578ef890f35c739498c50ef"), looks := true }, kinds := [], alts := [], laidByText := true, laidKinds := [.data, .data, .data, .data, .handle, .sentinel, .sentinel, .sentinel, .pinned], laidTests := true, laidLooks := .later }
def TopClassesUptoCardSaid : Prop := Claim7.holds Tryz.pinned (.plain (OpenSpec.upto topClassesSpec)) topClassesUptoCard
end Rows
end Go.Proofs.YtffangblkofjdaaGreatDoor
