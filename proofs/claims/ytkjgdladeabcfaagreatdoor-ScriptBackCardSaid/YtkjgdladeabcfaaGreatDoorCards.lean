/-
  DERIVED. GIVEN WITH THE SEED: THE CARDS: each row of YtkjgdladeabcfaaGreatDoorRows.lean that lists a variable, with what it lists TIED to the program's text (the seventh form; the later family's looks); each row that meets fmt, with fmt's text TOLD by the authors' own Lean function (tested against real Go, not proved from fmt's source: count such statements apart). THE CARD IS WHAT COUNTS. Prove the row's statement (the work); the ties are given (YtkjgdladeabcfaaGreatDoorTie.lean); close each card by the builder's one call (the guide's Derived/Test/ToyasCard.lean, 'card_holds'). Laid BY PROGRAM, IN A SANDBOX (cutbox-door.mjs). By AI agents, Wed Nov 11 2026. No macro, syntax, notation, axiom, sorry.
-/
import Derived.Test.YtkjgdladeabcfaaGreatDoorRows
import GoSem.ClaimSeven
namespace Go.Proofs.YtkjgdladeabcfaaGreatDoor
namespace Rows

/-- THE TIED CARD OF 'variantproxylaw33.ScriptEscapes'. -/
def scriptEscapesCard : Claim7 := { stood := { row := scriptEscapesRow, standIns := [], harness := (true, "3e184b56a42e18749c7b71e2f62c1154c0eded77376ed938463ae25f15546c7c"), looks := true }, kinds := [], alts := [], laidByText := true, laidKinds := [.data, .data, .data, .data, .handle, .sentinel, .sentinel, .sentinel, .sentinel, .sentinel, .pinned], laidTests := true, laidLooks := .later }
def ScriptEscapesCardSaid : Prop := Claim7.holds Tryz.pinned (.plain (OpenSpec.ofChange scriptEscapesSpec)) scriptEscapesCard

/-- THE TIED CARD OF 'variantproxylaw33.ScriptBack'. -/
def scriptBackCard : Claim7 := { stood := { row := scriptBackRow, standIns := [], harness := (true, "3e184b56a42e18749c7b71e2f62c1154c0eded77376ed938463ae25f15546c7c"), looks := true }, kinds := [], alts := [], laidByText := true, laidKinds := [.data, .data, .data, .data, .handle, .sentinel, .sentinel, .sentinel, .sentinel, .sentinel, .pinned], laidTests := true, laidLooks := .later }
def ScriptBackCardSaid : Prop := Claim7.holds Tryz.pinned (.plain (OpenSpec.ofChange scriptBackSpec)) scriptBackCard

/-- THE SECOND FORM's CARD OF 'variantproxylaw33.ScriptEscapes'. -/
def scriptEscapesUptoCard : Claim7 := { stood := { row := scriptEscapesUptoRow, standIns := [], harness := (true, "3e184b56a42e18749c7b71e2f62c1154c0eded77376ed938463ae25f15546c7c"), looks := true }, kinds := [], alts := [], laidByText := true, laidKinds := [.data, .data, .data, .data, .handle, .sentinel, .sentinel, .sentinel, .sentinel, .sentinel, .pinned], laidTests := true, laidLooks := .later }
def ScriptEscapesUptoCardSaid : Prop := Claim7.holds Tryz.pinned (.plain (OpenSpec.upto scriptEscapesSpec)) scriptEscapesUptoCard

/-- THE SECOND FORM's CARD OF 'variantproxylaw33.ScriptBack'. -/
def scriptBackUptoCard : Claim7 := { stood := { row := scriptBackUptoRow, standIns := [], harness := (true, "3e184b56a42e18749c7b71e2f62c1154c0eded77376ed938463ae25f15546c7c"), looks := true }, kinds := [], alts := [], laidByText := true, laidKinds := [.data, .data, .data, .data, .handle, .sentinel, .sentinel, .sentinel, .sentinel, .sentinel, .pinned], laidTests := true, laidLooks := .later }
def ScriptBackUptoCardSaid : Prop := Claim7.holds Tryz.pinned (.plain (OpenSpec.upto scriptBackSpec)) scriptBackUptoCard
end Rows
end Go.Proofs.YtkjgdladeabcfaaGreatDoor
