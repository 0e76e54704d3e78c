/-
  DERIVED. GIVEN WITH THE SEED: THE CARDS: each row of YteaklcnfmkaepaaDoorRows.lean that lists a variable, with what it lists TIED to the program's text (the seventh form; the later family's looks); each row that meets fmt, with fmt's text TOLD by the authors' own Lean function (tested against real Go, not proved from fmt's source: count such statements apart). THE CARD IS WHAT COUNTS. Prove the row's statement (the work); the ties are given (YteaklcnfmkaepaaDoorTie.lean); close each card by the builder's one call (the guide's Derived/Test/ToyasCard.lean, 'card_holds'). Laid BY PROGRAM, IN A SANDBOX (cutbox-door.mjs). By AI agents, Wed Nov 11 2026. No macro, syntax, notation, axiom, sorry.
-/
import Derived.Test.YteaklcnfmkaepaaDoorRows
import GoSem.ClaimSeven
namespace Go.Proofs.YteaklcnfmkaepaaDoor
namespace Rows

/-- THE TIED CARD OF 'variantproxylaw19.VaryValues'. -/
def varyValuesCard : Claim7 := { stood := { row := varyValuesRow, standIns := [], harness := (true, "7ee3316a5253dac85fbf4385a8334dba22d90c11f21d3df355bc2199b32bdd7e"), looks := false }, kinds := [], alts := [], laidByText := true, laidKinds := [.data, .pinned], laidTests := true, laidLooks := .later }
def VaryValuesCardSaid : Prop := Claim7.holds Tryd.pinned (.plain (OpenSpec.ofChange varyValuesSpec)) varyValuesCard

/-- THE TIED CARD OF 'variantproxylaw19.VaryItself'. -/
def varyItselfCard : Claim7 := { stood := { row := varyItselfRow, standIns := [], harness := (true, "7ee3316a5253dac85fbf4385a8334dba22d90c11f21d3df355bc2199b32bdd7e"), looks := false }, kinds := [], alts := [], laidByText := true, laidKinds := [.data, .pinned], laidTests := true, laidLooks := .later }
def VaryItselfCardSaid : Prop := Claim7.holds Tryd.pinned (.plain (OpenSpec.ofChange varyItselfSpec)) varyItselfCard

/-- THE TIED CARD OF 'variantproxylaw19.VaryNames'. -/
def varyNamesCard : Claim7 := { stood := { row := varyNamesRow, standIns := [], harness := (true, "7ee3316a5253dac85fbf4385a8334dba22d90c11f21d3df355bc2199b32bdd7e"), looks := false }, kinds := [], alts := [], laidByText := true, laidKinds := [.data, .pinned], laidTests := true, laidLooks := .later }
def VaryNamesCardSaid : Prop := Claim7.holds Tryd.pinned (.plain (OpenSpec.ofChange varyNamesSpec)) varyNamesCard

/-- THE TIED CARD OF 'variantproxylaw19.VarySorted'. -/
def varySortedCard : Claim7 := { stood := { row := varySortedRow, standIns := [], harness := (true, "7ee3316a5253dac85fbf4385a8334dba22d90c11f21d3df355bc2199b32bdd7e"), looks := false }, kinds := [], alts := [], laidByText := true, laidKinds := [.data, .pinned], laidTests := true, laidLooks := .later }
def VarySortedCardSaid : Prop := Claim7.holds Tryd.pinned (.plain (OpenSpec.ofChange varySortedSpec)) varySortedCard

/-- THE TIED CARD OF 'variantproxylaw26.EntrySizes'. -/
def entrySizesCard : Claim7 := { stood := { row := entrySizesRow, standIns := [], harness := (true, "7ee3316a5253dac85fbf4385a8334dba22d90c11f21d3df355bc2199b32bdd7e"), looks := false }, kinds := [], alts := [], laidByText := true, laidKinds := [.data, .data, .data], laidTests := true, laidLooks := .later }
def EntrySizesCardSaid : Prop := Claim7.holds Tryd.pinned (.plain (OpenSpec.ofChange entrySizesSpec)) entrySizesCard

/-- THE SECOND FORM's CARD OF 'variantproxylaw19.VaryValues'. -/
def varyValuesUptoCard : Claim7 := { stood := { row := varyValuesUptoRow, standIns := [], harness := (true, "7ee3316a5253dac85fbf4385a8334dba22d90c11f21d3df355bc2199b32bdd7e"), looks := false }, kinds := [], alts := [], laidByText := true, laidKinds := [.data, .pinned], laidTests := true, laidLooks := .later }
def VaryValuesUptoCardSaid : Prop := Claim7.holds Tryd.pinned (.plain (OpenSpec.upto varyValuesSpec)) varyValuesUptoCard

/-- THE SECOND FORM's CARD OF 'variantproxylaw19.VaryItself'. -/
def varyItselfUptoCard : Claim7 := { stood := { row := varyItselfUptoRow, standIns := [], harness := (true, "7ee3316a5253dac85fbf4385a8334dba22d90c11f21d3df355bc2199b32bdd7e"), looks := false }, kinds := [], alts := [], laidByText := true, laidKinds := [.data, .pinned], laidTests := true, laidLooks := .later }
def VaryItselfUptoCardSaid : Prop := Claim7.holds Tryd.pinned (.plain (OpenSpec.upto varyItselfSpec)) varyItselfUptoCard

/-- THE SECOND FORM's CARD OF 'variantproxylaw19.VaryNames'. -/
def varyNamesUptoCard : Claim7 := { stood := { row := varyNamesUptoRow, standIns := [], harness := (true, "7ee3316a5253dac85fbf4385a8334dba22d90c11f21d3df355bc2199b32bdd7e"), looks := false }, kinds := [], alts := [], laidByText := true, laidKinds := [.data, .pinned], laidTests := true, laidLooks := .later }
def VaryNamesUptoCardSaid : Prop := Claim7.holds Tryd.pinned (.plain (OpenSpec.upto varyNamesSpec)) varyNamesUptoCard

/-- THE SECOND FORM's CARD OF 'variantproxylaw19.VarySorted'. -/
def varySortedUptoCard : Claim7 := { stood := { row := varySortedUptoRow, standIns := [], harness := (true, "7ee3316a5253dac85fbf4385a8334dba22d90c11f21d3df355bc2199b32bdd7e"), looks := false }, kinds := [], alts := [], laidByText := true, laidKinds := [.data, .pinned], laidTests := true, laidLooks := .later }
def VarySortedUptoCardSaid : Prop := Claim7.holds Tryd.pinned (.plain (OpenSpec.upto varySortedSpec)) varySortedUptoCard

/-- THE SECOND FORM's CARD OF 'variantproxylaw26.EntrySizes'. -/
def entrySizesUptoCard : Claim7 := { stood := { row := entrySizesUptoRow, standIns := [], harness := (true, "7ee3316a5253dac85fbf4385a8334dba22d90c11f21d3df355bc2199b32bdd7e"), looks := false }, kinds := [], alts := [], laidByText := true, laidKinds := [.data, .data, .data], laidTests := true, laidLooks := .later }
def EntrySizesUptoCardSaid : Prop := Claim7.holds Tryd.pinned (.plain (OpenSpec.upto entrySizesSpec)) entrySizesUptoCard
end Rows
end Go.Proofs.YteaklcnfmkaepaaDoor
