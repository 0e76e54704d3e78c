/-
  DERIVED. GIVEN WITH THE SEED: THE CARDS: each row of YtipgfplekgdoiaaGreatDoorRows.lean that lists a variable, with what it lists TIED to the program's text (the seventh form; the later family's looks); each row that meets fmt, with fmt's text TOLD by the authors' own Lean function (tested against real Go, not proved from fmt's source: count such statements apart). THE CARD IS WHAT COUNTS. Prove the row's statement (the work); the ties are given (YtipgfplekgdoiaaGreatDoorTie.lean); close each card by the builder's one call (the guide's Derived/Test/ToyasCard.lean, 'card_holds'). Laid BY PROGRAM, IN A SANDBOX (cutbox-door.mjs). By AI agents, Wed Nov 11 2026. No macro, syntax, notation, axiom, sorry.
-/
import Derived.Test.YtipgfplekgdoiaaGreatDoorRows
import GoSem.ClaimSeven
namespace Go.Proofs.YtipgfplekgdoiaaGreatDoor
namespace Rows

/-- THE TIED CARD OF 'variantproxylaw27.TableFinds'. -/
def tableFindsCard : Claim7 := { stood := { row := tableFindsRow, standIns := [], harness := (true, "bec811eb578c7a42e20465eb06b2f4bd4a484c5fd709b5dc7a4f30dc52c5188c"), looks := false }, kinds := [], alts := [], laidByText := true, laidKinds := [.data, .pinned], laidTests := true, laidLooks := .later }
def TableFindsCardSaid : Prop := Claim7.holds Tryz.pinned (.plain (OpenSpec.ofChange tableFindsSpec)) tableFindsCard

/-- THE TIED CARD OF 'variantproxylaw27.TablePuts'. -/
def tablePutsCard : Claim7 := { stood := { row := tablePutsRow, standIns := [], harness := (true, "bec811eb578c7a42e20465eb06b2f4bd4a484c5fd709b5dc7a4f30dc52c5188c"), looks := false }, kinds := [], alts := [], laidByText := true, laidKinds := [.data, .pinned], laidTests := true, laidLooks := .later }
def TablePutsCardSaid : Prop := Claim7.holds Tryz.pinned (.plain (OpenSpec.ofChange tablePutsSpec)) tablePutsCard

/-- THE TIED CARD OF 'variantproxylaw27.TableJustifies'. -/
def tableJustifiesCard : Claim7 := { stood := { row := tableJustifiesRow, standIns := [], harness := (true, "bec811eb578c7a42e20465eb06b2f4bd4a484c5fd709b5dc7a4f30dc52c5188c"), looks := false }, kinds := [], alts := [], laidByText := true, laidKinds := [.data, .pinned], laidTests := true, laidLooks := .later }
def TableJustifiesCardSaid : Prop := Claim7.holds Tryz.pinned (.plain (OpenSpec.ofChange tableJustifiesSpec)) tableJustifiesCard

/-- THE TIED CARD OF 'variantproxylaw27.TableParts'. -/
def tablePartsCard : Claim7 := { stood := { row := tablePartsRow, standIns := [], harness := (true, "bec811eb578c7a42e20465eb06b2f4bd4a484c5fd709b5dc7a4f30dc52c5188c"), looks := false }, kinds := [], alts := [], laidByText := true, laidKinds := [.data, .pinned], laidTests := true, laidLooks := .later }
def TablePartsCardSaid : Prop := Claim7.holds Tryz.pinned (.plain (OpenSpec.ofChange tablePartsSpec)) tablePartsCard

/-- THE TIED CARD OF 'variantproxylaw27.TableFindsStored'. -/
def tableFindsStoredCard : Claim7 := { stood := { row := tableFindsStoredRow, standIns := [], harness := (true, "bec811eb578c7a42e20465eb06b2f4bd4a484c5fd709b5dc7a4f30dc52c5188c"), looks := false }, kinds := [], alts := [], laidByText := true, laidKinds := [.data, .pinned], laidTests := true, laidLooks := .later }
def TableFindsStoredCardSaid : Prop := Claim7.holds Tryz.pinned (.plain (OpenSpec.ofChange tableFindsStoredSpec)) tableFindsStoredCard

/-- THE TIED CARD OF 'variantproxylaw27.TableStaysValid'. -/
def tableStaysValidCard : Claim7 := { stood := { row := tableStaysValidRow, standIns := [], harness := (true, "bec811eb578c7a42e20465eb06b2f4bd4a484c5fd709b5dc7a4f30dc52c5188c"), looks := false }, kinds := [], alts := [], laidByText := true, laidKinds := [.data, .pinned], laidTests := true, laidLooks := .later }
def TableStaysValidCardSaid : Prop := Claim7.holds Tryz.pinned (.plain (OpenSpec.ofChange tableStaysValidSpec)) tableStaysValidCard

/-- THE SECOND FORM's CARD OF 'variantproxylaw27.TableFinds'. -/
def tableFindsUptoCard : Claim7 := { stood := { row := tableFindsUptoRow, standIns := [], harness := (true, "bec811eb578c7a42e20465eb06b2f4bd4a484c5fd709b5dc7a4f30dc52c5188c"), looks := false }, kinds := [], alts := [], laidByText := true, laidKinds := [.data, .pinned], laidTests := true, laidLooks := .later }
def TableFindsUptoCardSaid : Prop := Claim7.holds Tryz.pinned (.plain (OpenSpec.upto tableFindsSpec)) tableFindsUptoCard

/-- THE SECOND FORM's CARD OF 'variantproxylaw27.TablePuts'. -/
def tablePutsUptoCard : Claim7 := { stood := { row := tablePutsUptoRow, standIns := [], harness := (true, "bec811eb578c7a42e20465eb06b2f4bd4a484c5fd709b5dc7a4f30dc52c5188c"), looks := false }, kinds := [], alts := [], laidByText := true, laidKinds := [.data, .pinned], laidTests := true, laidLooks := .later }
def TablePutsUptoCardSaid : Prop := Claim7.holds Tryz.pinned (.plain (OpenSpec.upto tablePutsSpec)) tablePutsUptoCard

/-- THE SECOND FORM's CARD OF 'variantproxylaw27.TableJustifies'. -/
def tableJustifiesUptoCard : Claim7 := { stood := { row := tableJustifiesUptoRow, standIns := [], harness := (true, "bec811eb578c7a42e20465eb06b2f4bd4a484c5fd709b5dc7a4f30dc52c5188c"), looks := false }, kinds := [], alts := [], laidByText := true, laidKinds := [.data, .pinned], laidTests := true, laidLooks := .later }
def TableJustifiesUptoCardSaid : Prop := Claim7.holds Tryz.pinned (.plain (OpenSpec.upto tableJustifiesSpec)) tableJustifiesUptoCard

/-- THE SECOND FORM's CARD OF 'variantproxylaw27.TableParts'. -/
def tablePartsUptoCard : Claim7 := { stood := { row := tablePartsUptoRow, standIns := [], harness := (true, "bec811eb578c7a42e20465eb06b2f4bd4a484c5fd709b5dc7a4f30dc52c5188c"), looks := false }, kinds := [], alts := [], laidByText := true, laidKinds := [.data, .pinned], laidTests := true, laidLooks := .later }
def TablePartsUptoCardSaid : Prop := Claim7.holds Tryz.pinned (.plain (OpenSpec.upto tablePartsSpec)) tablePartsUptoCard

/-- THE SECOND FORM's CARD OF 'variantproxylaw27.TableFindsStored'. -/
def tableFindsStoredUptoCard : Claim7 := { stood := { row := tableFindsStoredUptoRow, standIns := [], harness := (true, "bec811eb578c7a42e20465eb06b2f4bd4a484c5fd709b5dc7a4f30dc52c5188c"), looks := false }, kinds := [], alts := [], laidByText := true, laidKinds := [.data, .pinned], laidTests := true, laidLooks := .later }
def TableFindsStoredUptoCardSaid : Prop := Claim7.holds Tryz.pinned (.plain (OpenSpec.upto tableFindsStoredSpec)) tableFindsStoredUptoCard

/-- THE SECOND FORM's CARD OF 'variantproxylaw27.TableStaysValid'. -/
def tableStaysValidUptoCard : Claim7 := { stood := { row := tableStaysValidUptoRow, standIns := [], harness := (true, "bec811eb578c7a42e20465eb06b2f4bd4a484c5fd709b5dc7a4f30dc52c5188c"), looks := false }, kinds := [], alts := [], laidByText := true, laidKinds := [.data, .pinned], laidTests := true, laidLooks := .later }
def TableStaysValidUptoCardSaid : Prop := Claim7.holds Tryz.pinned (.plain (OpenSpec.upto tableStaysValidSpec)) tableStaysValidUptoCard
end Rows
end Go.Proofs.YtipgfplekgdoiaaGreatDoor
