/-
  DERIVED. GIVEN WITH THE SEED: THE CARDS: each row of YtogfdiigokidaaaGreatDoorRows.lean that lists a variable, with what it lists TIED to the program's text (the seventh form; the later family's looks); each row that meets fmt, with fmt's text TOLD by the authors' own Lean function (tested against real Go, not proved from fmt's source: count such statements apart). THE CARD IS WHAT COUNTS. Prove the row's statement (the work); the ties are given (YtogfdiigokidaaaGreatDoorTie.lean); close each card by the builder's one call (the guide's Derived/Test/ToyasCard.lean, 'card_holds'). Laid BY PROGRAM, IN A SANDBOX (cutbox-door.mjs). By AI agents, Wed Nov 11 2026. No macro, syntax, notation, axiom, sorry.
-/
import Derived.Test.YtogfdiigokidaaaGreatDoorRows
import GoSem.ClaimSeven
namespace Go.Proofs.YtogfdiigokidaaaGreatDoor
namespace Rows

/-- THE TIED CARD OF 'variantproxylaw26.EntryResponses'. -/
def entryResponsesCard : Claim7 := { stood := { row := entryResponsesRow, standIns := [], harness := (true, "49570d0b510b88a6b1a0fa1fdad465810f371736b1677dedfbb9afe4f39fde59"), looks := true }, kinds := [], alts := [], laidByText := true, laidKinds := [.data, .data, .data, .data, .sentinel, .sentinel, .pinned], laidTests := true, laidLooks := .later }
def EntryResponsesCardSaid : Prop := Claim7.holds Tryz.pinned (.plain (OpenSpec.ofChange entryResponsesSpec)) entryResponsesCard

/-- THE TIED CARD OF 'variantproxylaw26.EntrySends'. -/
def entrySendsCard : Claim7 := { stood := { row := entrySendsRow, standIns := [], harness := (true, "49570d0b510b88a6b1a0fa1fdad465810f371736b1677dedfbb9afe4f39fde59"), looks := true }, kinds := [], alts := [], laidByText := true, laidKinds := [.data, .data, .data, .data, .sentinel, .sentinel, .pinned], laidTests := true, laidLooks := .later }
def EntrySendsCardSaid : Prop := Claim7.holds Tryz.pinned (.plain (OpenSpec.ofChange entrySendsSpec)) entrySendsCard

/-- THE TIED CARD OF 'variantproxylaw26.EntryMakes'. -/
def entryMakesCard : Claim7 := { stood := { row := entryMakesRow, standIns := [], harness := (true, "49570d0b510b88a6b1a0fa1fdad465810f371736b1677dedfbb9afe4f39fde59"), looks := true }, kinds := [], alts := [], laidByText := true, laidKinds := [.data, .data, .data, .data, .pinned], laidTests := true, laidLooks := .later }
def EntryMakesCardSaid : Prop := Claim7.holds Tryz.pinned (.plain (OpenSpec.ofChange entryMakesSpec)) entryMakesCard

/-- THE TIED CARD OF 'variantproxylaw26.EntryKeeps'. -/
def entryKeepsCard : Claim7 := { stood := { row := entryKeepsRow, standIns := [], harness := (true, "49570d0b510b88a6b1a0fa1fdad465810f371736b1677dedfbb9afe4f39fde59"), looks := true }, kinds := [], alts := [], laidByText := true, laidKinds := [.data, .data, .data, .data, .pinned], laidTests := true, laidLooks := .later }
def EntryKeepsCardSaid : Prop := Claim7.holds Tryz.pinned (.plain (OpenSpec.ofChange entryKeepsSpec)) entryKeepsCard

/-- THE TIED CARD OF 'variantproxylaw26.EntryFits'. -/
def entryFitsCard : Claim7 := { stood := { row := entryFitsRow, standIns := [], harness := (true, "49570d0b510b88a6b1a0fa1fdad465810f371736b1677dedfbb9afe4f39fde59"), looks := true }, kinds := [], alts := [], laidByText := true, laidKinds := [.data, .data, .data, .data, .pinned], laidTests := true, laidLooks := .later }
def EntryFitsCardSaid : Prop := Claim7.holds Tryz.pinned (.plain (OpenSpec.ofChange entryFitsSpec)) entryFitsCard

/-- THE SECOND FORM's CARD OF 'variantproxylaw26.EntryResponses'. -/
def entryResponsesUptoCard : Claim7 := { stood := { row := entryResponsesUptoRow, standIns := [], harness := (true, "49570d0b510b88a6b1a0fa1fdad465810f371736b1677dedfbb9afe4f39fde59"), looks := true }, kinds := [], alts := [], laidByText := true, laidKinds := [.data, .data, .data, .data, .sentinel, .sentinel, .pinned], laidTests := true, laidLooks := .later }
def EntryResponsesUptoCardSaid : Prop := Claim7.holds Tryz.pinned (.plain (OpenSpec.upto entryResponsesSpec)) entryResponsesUptoCard

/-- THE SECOND FORM's CARD OF 'variantproxylaw26.EntrySends'. -/
def entrySendsUptoCard : Claim7 := { stood := { row := entrySendsUptoRow, standIns := [], harness := (true, "49570d0b510b88a6b1a0fa1fdad465810f371736b1677dedfbb9afe4f39fde59"), looks := true }, kinds := [], alts := [], laidByText := true, laidKinds := [.data, .data, .data, .data, .sentinel, .sentinel, .pinned], laidTests := true, laidLooks := .later }
def EntrySendsUptoCardSaid : Prop := Claim7.holds Tryz.pinned (.plain (OpenSpec.upto entrySendsSpec)) entrySendsUptoCard

/-- THE SECOND FORM's CARD OF 'variantproxylaw26.EntryMakes'. -/
def entryMakesUptoCard : Claim7 := { stood := { row := entryMakesUptoRow, standIns := [], harness := (true, "49570d0b510b88a6b1a0fa1fdad465810f371736b1677dedfbb9afe4f39fde59"), looks := true }, kinds := [], alts := [], laidByText := true, laidKinds := [.data, .data, .data, .data, .pinned], laidTests := true, laidLooks := .later }
def EntryMakesUptoCardSaid : Prop := Claim7.holds Tryz.pinned (.plain (OpenSpec.upto entryMakesSpec)) entryMakesUptoCard

/-- THE SECOND FORM's CARD OF 'variantproxylaw26.EntryKeeps'. -/
def entryKeepsUptoCard : Claim7 := { stood := { row := entryKeepsUptoRow, standIns := [], harness := (true, "49570d0b510b88a6b1a0fa1fdad465810f371736b1677dedfbb9afe4f39fde59"), looks := true }, kinds := [], alts := [], laidByText := true, laidKinds := [.data, .data, .data, .data, .pinned], laidTests := true, laidLooks := .later }
def EntryKeepsUptoCardSaid : Prop := Claim7.holds Tryz.pinned (.plain (OpenSpec.upto entryKeepsSpec)) entryKeepsUptoCard

/-- THE SECOND FORM's CARD OF 'variantproxylaw26.EntryFits'. -/
def entryFitsUptoCard : Claim7 := { stood := { row := entryFitsUptoRow, standIns := [], harness := (true, "49570d0b510b88a6b1a0fa1fdad465810f371736b1677dedfbb9afe4f39fde59"), looks := true }, kinds := [], alts := [], laidByText := true, laidKinds := [.data, .data, .data, .data, .pinned], laidTests := true, laidLooks := .later }
def EntryFitsUptoCardSaid : Prop := Claim7.holds Tryz.pinned (.plain (OpenSpec.upto entryFitsSpec)) entryFitsUptoCard
end Rows
end Go.Proofs.YtogfdiigokidaaaGreatDoor
