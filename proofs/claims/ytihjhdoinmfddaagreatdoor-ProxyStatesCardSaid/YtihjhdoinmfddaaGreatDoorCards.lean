/-
  DERIVED. GIVEN WITH THE SEED: THE CARDS: each row of YtihjhdoinmfddaaGreatDoorRows.lean that lists a variable, with what it lists TIED to the program's text (the seventh form; the later family's looks); each row that meets fmt, with fmt's text TOLD by the authors' own Lean function (tested against real Go, not proved from fmt's source: count such statements apart). THE CARD IS WHAT COUNTS. Prove the row's statement (the work); the ties are given (YtihjhdoinmfddaaGreatDoorTie.lean); close each card by the builder's one call (the guide's Derived/Test/ToyasCard.lean, 'card_holds'). Laid BY PROGRAM, IN A SANDBOX (cutbox-door.mjs). By AI agents, Wed Nov 11 2026. No macro, syntax, notation, axiom, sorry.
-/
import Derived.Test.YtihjhdoinmfddaaGreatDoorRows
import GoSem.ClaimSeven
namespace Go.Proofs.YtihjhdoinmfddaaGreatDoor
namespace Rows

/-- THE TIED CARD OF 'variantproxylaw32.ProxyStates'. -/
def proxyStatesCard : Claim7 := { stood := { row := proxyStatesRow, standIns := [], harness := (true, "6182dab35243fdbc4d95684052e05fed99dbf55db37002a8474db6009872eb64"), looks := true }, kinds := [], alts := [], laidByText := true, laidKinds := [.data, .data, .data, .data, .handle, .sentinel, .sentinel, .sentinel, .pinned], laidTests := true, laidLooks := .later }
def ProxyStatesCardSaid : Prop := Claim7.holds Tryz.pinned (.plain (OpenSpec.ofChange proxyStatesSpec)) proxyStatesCard

/-- THE SECOND FORM's CARD OF 'variantproxylaw32.ProxyStates'. -/
def proxyStatesUptoCard : Claim7 := { stood := { row := proxyStatesUptoRow, standIns := [], harness := (true, "6182dab35243fdbc4d95684052e05fed99dbf55db37002a8474db6009872eb64"), looks := true }, kinds := [], alts := [], laidByText := true, laidKinds := [.data, .data, .data, .data, .handle, .sentinel, .sentinel, .sentinel, .pinned], laidTests := true, laidLooks := .later }
def ProxyStatesUptoCardSaid : Prop := Claim7.holds Tryz.pinned (.plain (OpenSpec.upto proxyStatesSpec)) proxyStatesUptoCard
end Rows
end Go.Proofs.YtihjhdoinmfddaaGreatDoor
