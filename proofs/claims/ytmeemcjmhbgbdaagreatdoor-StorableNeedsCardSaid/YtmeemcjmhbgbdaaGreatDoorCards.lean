/-
  DERIVED. GIVEN WITH THE SEED: THE CARDS: each row of YtmeemcjmhbgbdaaGreatDoorRows.lean that lists a variable, with what it lists TIED to the program's text (the seventh form; the later family's looks); each row that meets fmt, with fmt's text TOLD by the authors' own Lean function (tested against real Go, not proved from fmt's source: count such statements apart). THE CARD IS WHAT COUNTS. Prove the row's statement (the work); the ties are given (YtmeemcjmhbgbdaaGreatDoorTie.lean); close each card by the builder's one call (the guide's Derived/Test/ToyasCard.lean, 'card_holds'). Laid BY PROGRAM, IN A SANDBOX (cutbox-door.mjs). By AI agents, Wed Nov 11 2026. No macro, syntax, notation, axiom, sorry.
-/
import Derived.Test.YtmeemcjmhbgbdaaGreatDoorRows
import GoSem.ClaimSeven
namespace Go.Proofs.YtmeemcjmhbgbdaaGreatDoor
namespace Rows

/-- THE TIED CARD OF 'variantproxylaw24.StorableDecides'. -/
def storableDecidesCard : Claim7 := { stood := { row := storableDecidesRow, standIns := [], harness := (true, "a4cbe5ed80beb1bee6b733129a797fcac89fde238cdccc998ab679667a78f236"), looks := false }, kinds := [], alts := [], laidByText := true, laidKinds := [.data, .pinned], laidTests := true, laidLooks := .later }
def StorableDecidesCardSaid : Prop := Claim7.holds Tryz.pinned (.plain (OpenSpec.ofChange storableDecidesSpec)) storableDecidesCard

/-- THE TIED CARD OF 'variantproxylaw24.StorableParts'. -/
def storablePartsCard : Claim7 := { stood := { row := storablePartsRow, standIns := [], harness := (true, "a4cbe5ed80beb1bee6b733129a797fcac89fde238cdccc998ab679667a78f236"), looks := false }, kinds := [], alts := [], laidByText := true, laidKinds := [.data, .pinned], laidTests := true, laidLooks := .later }
def StorablePartsCardSaid : Prop := Claim7.holds Tryz.pinned (.plain (OpenSpec.ofChange storablePartsSpec)) storablePartsCard

/-- THE TIED CARD OF 'variantproxylaw24.StorableNeeds'. -/
def storableNeedsCard : Claim7 := { stood := { row := storableNeedsRow, standIns := [], harness := (true, "a4cbe5ed80beb1bee6b733129a797fcac89fde238cdccc998ab679667a78f236"), looks := false }, kinds := [], alts := [], laidByText := true, laidKinds := [.data, .pinned], laidTests := true, laidLooks := .later }
def StorableNeedsCardSaid : Prop := Claim7.holds Tryz.pinned (.plain (OpenSpec.ofChange storableNeedsSpec)) storableNeedsCard

/-- THE SECOND FORM's CARD OF 'variantproxylaw24.StorableDecides'. -/
def storableDecidesUptoCard : Claim7 := { stood := { row := storableDecidesUptoRow, standIns := [], harness := (true, "a4cbe5ed80beb1bee6b733129a797fcac89fde238cdccc998ab679667a78f236"), looks := false }, kinds := [], alts := [], laidByText := true, laidKinds := [.data, .pinned], laidTests := true, laidLooks := .later }
def StorableDecidesUptoCardSaid : Prop := Claim7.holds Tryz.pinned (.plain (OpenSpec.upto storableDecidesSpec)) storableDecidesUptoCard

/-- THE SECOND FORM's CARD OF 'variantproxylaw24.StorableParts'. -/
def storablePartsUptoCard : Claim7 := { stood := { row := storablePartsUptoRow, standIns := [], harness := (true, "a4cbe5ed80beb1bee6b733129a797fcac89fde238cdccc998ab679667a78f236"), looks := false }, kinds := [], alts := [], laidByText := true, laidKinds := [.data, .pinned], laidTests := true, laidLooks := .later }
def StorablePartsUptoCardSaid : Prop := Claim7.holds Tryz.pinned (.plain (OpenSpec.upto storablePartsSpec)) storablePartsUptoCard

/-- THE SECOND FORM's CARD OF 'variantproxylaw24.StorableNeeds'. -/
def storableNeedsUptoCard : Claim7 := { stood := { row := storableNeedsUptoRow, standIns := [], harness := (true, "a4cbe5ed80beb1bee6b733129a797fcac89fde238cdccc998ab679667a78f236"), looks := false }, kinds := [], alts := [], laidByText := true, laidKinds := [.data, .pinned], laidTests := true, laidLooks := .later }
def StorableNeedsUptoCardSaid : Prop := Claim7.holds Tryz.pinned (.plain (OpenSpec.upto storableNeedsSpec)) storableNeedsUptoCard
end Rows
end Go.Proofs.YtmeemcjmhbgbdaaGreatDoor
