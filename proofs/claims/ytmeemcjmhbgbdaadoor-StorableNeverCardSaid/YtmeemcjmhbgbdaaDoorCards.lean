/-
  DERIVED. GIVEN WITH THE SEED: THE CARDS: each row of YtmeemcjmhbgbdaaDoorRows.lean that lists a variable, with what it lists TIED to the program's text (the seventh form; the later family's looks); each row that meets fmt, with fmt's text TOLD by the authors' own Lean function (tested against real Go, not proved from fmt's source: count such statements apart). THE CARD IS WHAT COUNTS. Prove the row's statement (the work); the ties are given (YtmeemcjmhbgbdaaDoorTie.lean); close each card by the builder's one call (the guide's Derived/Test/ToyasCard.lean, 'card_holds'). Laid BY PROGRAM, IN A SANDBOX (cutbox-door.mjs). By AI agents, Wed Nov 11 2026. No macro, syntax, notation, axiom, sorry.
-/
import Derived.Test.YtmeemcjmhbgbdaaDoorRows
import GoSem.ClaimSeven
namespace Go.Proofs.YtmeemcjmhbgbdaaDoor
namespace Rows

/-- THE TIED CARD OF 'variantproxylaw24.StorableNever'. -/
def storableNeverCard : Claim7 := { stood := { row := storableNeverRow, standIns := [], harness := (true, "d526ceaa9e55f0abfc3cc4007ed14b62df4ff5c8d5466e1541613384f13d6abb"), looks := false }, kinds := [], alts := [], laidByText := true, laidKinds := [.data, .pinned], laidTests := true, laidLooks := .later }
def StorableNeverCardSaid : Prop := Claim7.holds Tryd.pinned (.plain (OpenSpec.ofChange storableNeverSpec)) storableNeverCard

/-- THE SECOND FORM's CARD OF 'variantproxylaw24.StorableNever'. -/
def storableNeverUptoCard : Claim7 := { stood := { row := storableNeverUptoRow, standIns := [], harness := (true, "d526ceaa9e55f0abfc3cc4007ed14b62df4ff5c8d5466e1541613384f13d6abb"), looks := false }, kinds := [], alts := [], laidByText := true, laidKinds := [.data, .pinned], laidTests := true, laidLooks := .later }
def StorableNeverUptoCardSaid : Prop := Claim7.holds Tryd.pinned (.plain (OpenSpec.upto storableNeverSpec)) storableNeverUptoCard
end Rows
end Go.Proofs.YtmeemcjmhbgbdaaDoor
