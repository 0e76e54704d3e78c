/-
  DERIVED. GIVEN WITH THE SEED: THE CARDS: each row of YtogfdiigokidaaaDoorRows.lean that lists a variable, with what it lists TIED to the program's text (the seventh form; the later family's looks); each row that meets fmt, with fmt's text TOLD by the authors' own Lean function (tested against real Go, not proved from fmt's source: count such statements apart). THE CARD IS WHAT COUNTS. Prove the row's statement (the work); the ties are given (YtogfdiigokidaaaDoorTie.lean); close each card by the builder's one call (the guide's Derived/Test/ToyasCard.lean, 'card_holds'). Laid BY PROGRAM, IN A SANDBOX (cutbox-door.mjs). By AI agents, Wed Nov 11 2026. No macro, syntax, notation, axiom, sorry.
-/
import Derived.Test.YtogfdiigokidaaaDoorRows
import GoSem.ClaimSeven
namespace Go.Proofs.YtogfdiigokidaaaDoor
namespace Rows

/-- THE TIED CARD OF 'variantproxylaw26.EntrySizes'. -/
def entrySizesCard : Claim7 := { stood := { row := entrySizesRow, standIns := [], harness := (true, "eb9ba569036c040e864794c55deb3ff204707b7627230251ac22ced058d8638c"), looks := false }, kinds := [], alts := [], laidByText := true, laidKinds := [.data, .data, .data], laidTests := true, laidLooks := .later }
def EntrySizesCardSaid : Prop := Claim7.holds Tryd.pinned (.plain (OpenSpec.ofChange entrySizesSpec)) entrySizesCard

/-- THE SECOND FORM's CARD OF 'variantproxylaw26.EntrySizes'. -/
def entrySizesUptoCard : Claim7 := { stood := { row := entrySizesUptoRow, standIns := [], harness := (true, "eb9ba569036c040e864794c55deb3ff204707b7627230251ac22ced058d8638c"), looks := false }, kinds := [], alts := [], laidByText := true, laidKinds := [.data, .data, .data], laidTests := true, laidLooks := .later }
def EntrySizesUptoCardSaid : Prop := Claim7.holds Tryd.pinned (.plain (OpenSpec.upto entrySizesSpec)) entrySizesUptoCard
end Rows
end Go.Proofs.YtogfdiigokidaaaDoor
