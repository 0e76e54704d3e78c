/-
  DERIVED. GIVEN WITH THE SEED: THE CARDS: each row of YtggmjoffcdnplaaDoorRows.lean that lists a variable, with what it lists TIED to the program's text (the seventh form; the later family's looks); each row that meets fmt, with fmt's text TOLD by the authors' own Lean function (tested against real Go, not proved from fmt's source: count such statements apart). THE CARD IS WHAT COUNTS. Prove the row's statement (the work); the ties are given (YtggmjoffcdnplaaDoorTie.lean); close each card by the builder's one call (the guide's Derived/Test/ToyasCard.lean, 'card_holds'). Laid BY PROGRAM, IN A SANDBOX (cutbox-door.mjs). By AI agents, Wed Nov 11 2026. No macro, syntax, notation, axiom, sorry.
-/
import Derived.Test.YtggmjoffcdnplaaDoorRows
import GoSem.ClaimSeven
namespace Go.Proofs.YtggmjoffcdnplaaDoor
namespace Rows

/-- THE TIED CARD OF 'variantproxylaw08.QvalueParses'. -/
def qvalueParsesCard : Claim7 := { stood := { row := qvalueParsesRow, standIns := [], harness := (true, "ce57f03d2682978d54a37564e547d39feafcb72bac3f1ff2d3c33a71bcb5ad8f"), looks := false }, kinds := [], alts := [], laidByText := true, laidKinds := [.data, .pinned], laidTests := true, laidLooks := .later }
def QvalueParsesCardSaid : Prop := Claim7.holds Tryd.pinned (.plain (OpenSpec.ofChange qvalueParsesSpec)) qvalueParsesCard

/-- THE TIED CARD OF 'variantproxylaw08.QvalueFormats'. -/
def qvalueFormatsCard : Claim7 := { stood := { row := qvalueFormatsRow, standIns := [], harness := (true, "ce57f03d2682978d54a37564e547d39feafcb72bac3f1ff2d3c33a71bcb5ad8f"), looks := false }, kinds := [], alts := [], laidByText := true, laidKinds := [.data, .pinned], laidTests := true, laidLooks := .later }
def QvalueFormatsCardSaid : Prop := Claim7.holds Tryd.pinned (.plain (OpenSpec.ofChange qvalueFormatsSpec)) qvalueFormatsCard

/-- THE TIED CARD OF 'variantproxylaw08.QvalueZeros'. -/
def qvalueZerosCard : Claim7 := { stood := { row := qvalueZerosRow, standIns := [], harness := (true, "ce57f03d2682978d54a37564e547d39feafcb72bac3f1ff2d3c33a71bcb5ad8f"), looks := false }, kinds := [], alts := [], laidByText := true, laidKinds := [.data, .pinned], laidTests := true, laidLooks := .later }
def QvalueZerosCardSaid : Prop := Claim7.holds Tryd.pinned (.plain (OpenSpec.ofChange qvalueZerosSpec)) qvalueZerosCard

/-- THE TIED CARD OF 'variantproxylaw07.ListAll'. -/
def listAllCard : Claim7 := { stood := { row := listAllRow, standIns := [], harness := (true, "ce57f03d2682978d54a37564e547d39feafcb72bac3f1ff2d3c33a71bcb5ad8f"), looks := false }, kinds := [], alts := [], laidByText := true, laidKinds := [.data, .pinned], laidTests := true, laidLooks := .later }
def ListAllCardSaid : Prop := Claim7.holds Tryd.pinned (.plain (OpenSpec.ofChange listAllSpec)) listAllCard

/-- THE TIED CARD OF 'variantproxylaw07.ListLines'. -/
def listLinesCard : Claim7 := { stood := { row := listLinesRow, standIns := [], harness := (true, "ce57f03d2682978d54a37564e547d39feafcb72bac3f1ff2d3c33a71bcb5ad8f"), looks := false }, kinds := [], alts := [], laidByText := true, laidKinds := [.data, .pinned], laidTests := true, laidLooks := .later }
def ListLinesCardSaid : Prop := Claim7.holds Tryd.pinned (.plain (OpenSpec.ofChange listLinesSpec)) listLinesCard

/-- THE TIED CARD OF 'variantproxylaw07.ListSplits'. -/
def listSplitsCard : Claim7 := { stood := { row := listSplitsRow, standIns := [], harness := (true, "ce57f03d2682978d54a37564e547d39feafcb72bac3f1ff2d3c33a71bcb5ad8f"), looks := false }, kinds := [], alts := [], laidByText := true, laidKinds := [.data, .pinned], laidTests := true, laidLooks := .later }
def ListSplitsCardSaid : Prop := Claim7.holds Tryd.pinned (.plain (OpenSpec.ofChange listSplitsSpec)) listSplitsCard

/-- THE TIED CARD OF 'variantproxylaw07.ListBack'. -/
def listBackCard : Claim7 := { stood := { row := listBackRow, standIns := [], harness := (true, "ce57f03d2682978d54a37564e547d39feafcb72bac3f1ff2d3c33a71bcb5ad8f"), looks := false }, kinds := [], alts := [], laidByText := true, laidKinds := [.data, .pinned], laidTests := true, laidLooks := .later }
def ListBackCardSaid : Prop := Claim7.holds Tryd.pinned (.plain (OpenSpec.ofChange listBackSpec)) listBackCard

/-- THE TIED CARD OF 'variantproxylaw21.EtagLines'. -/
def etagLinesCard : Claim7 := { stood := { row := etagLinesRow, standIns := [], harness := (true, "ce57f03d2682978d54a37564e547d39feafcb72bac3f1ff2d3c33a71bcb5ad8f"), looks := false }, kinds := [], alts := [], laidByText := true, laidKinds := [.data, .pinned], laidTests := true, laidLooks := .later }
def EtagLinesCardSaid : Prop := Claim7.holds Tryd.pinned (.plain (OpenSpec.ofChange etagLinesSpec)) etagLinesCard

/-- THE TIED CARD OF 'variantproxylaw21.EtagLists'. -/
def etagListsCard : Claim7 := { stood := { row := etagListsRow, standIns := [], harness := (true, "ce57f03d2682978d54a37564e547d39feafcb72bac3f1ff2d3c33a71bcb5ad8f"), looks := false }, kinds := [], alts := [], laidByText := true, laidKinds := [.data, .pinned], laidTests := true, laidLooks := .later }
def EtagListsCardSaid : Prop := Claim7.holds Tryd.pinned (.plain (OpenSpec.ofChange etagListsSpec)) etagListsCard

/-- THE SECOND FORM's CARD OF 'variantproxylaw08.QvalueParses'. -/
def qvalueParsesUptoCard : Claim7 := { stood := { row := qvalueParsesUptoRow, standIns := [], harness := (true, "ce57f03d2682978d54a37564e547d39feafcb72bac3f1ff2d3c33a71bcb5ad8f"), looks := false }, kinds := [], alts := [], laidByText := true, laidKinds := [.data, .pinned], laidTests := true, laidLooks := .later }
def QvalueParsesUptoCardSaid : Prop := Claim7.holds Tryd.pinned (.plain (OpenSpec.upto qvalueParsesSpec)) qvalueParsesUptoCard

/-- THE SECOND FORM's CARD OF 'variantproxylaw08.QvalueFormats'. -/
def qvalueFormatsUptoCard : Claim7 := { stood := { row := qvalueFormatsUptoRow, standIns := [], harness := (true, "ce57f03d2682978d54a37564e547d39feafcb72bac3f1ff2d3c33a71bcb5ad8f"), looks := false }, kinds := [], alts := [], laidByText := true, laidKinds := [.data, .pinned], laidTests := true, laidLooks := .later }
def QvalueFormatsUptoCardSaid : Prop := Claim7.holds Tryd.pinned (.plain (OpenSpec.upto qvalueFormatsSpec)) qvalueFormatsUptoCard

/-- THE SECOND FORM's CARD OF 'variantproxylaw08.QvalueZeros'. -/
def qvalueZerosUptoCard : Claim7 := { stood := { row := qvalueZerosUptoRow, standIns := [], harness := (true, "ce57f03d2682978d54a37564e547d39feafcb72bac3f1ff2d3c33a71bcb5ad8f"), looks := false }, kinds := [], alts := [], laidByText := true, laidKinds := [.data, .pinned], laidTests := true, laidLooks := .later }
def QvalueZerosUptoCardSaid : Prop := Claim7.holds Tryd.pinned (.plain (OpenSpec.upto qvalueZerosSpec)) qvalueZerosUptoCard

/-- THE SECOND FORM's CARD OF 'variantproxylaw07.ListAll'. -/
def listAllUptoCard : Claim7 := { stood := { row := listAllUptoRow, standIns := [], harness := (true, "ce57f03d2682978d54a37564e547d39feafcb72bac3f1ff2d3c33a71bcb5ad8f"), looks := false }, kinds := [], alts := [], laidByText := true, laidKinds := [.data, .pinned], laidTests := true, laidLooks := .later }
def ListAllUptoCardSaid : Prop := Claim7.holds Tryd.pinned (.plain (OpenSpec.upto listAllSpec)) listAllUptoCard

/-- THE SECOND FORM's CARD OF 'variantproxylaw07.ListLines'. -/
def listLinesUptoCard : Claim7 := { stood := { row := listLinesUptoRow, standIns := [], harness := (true, "ce57f03d2682978d54a37564e547d39feafcb72bac3f1ff2d3c33a71bcb5ad8f"), looks := false }, kinds := [], alts := [], laidByText := true, laidKinds := [.data, .pinned], laidTests := true, laidLooks := .later }
def ListLinesUptoCardSaid : Prop := Claim7.holds Tryd.pinned (.plain (OpenSpec.upto listLinesSpec)) listLinesUptoCard

/-- THE SECOND FORM's CARD OF 'variantproxylaw07.ListSplits'. -/
def listSplitsUptoCard : Claim7 := { stood := { row := listSplitsUptoRow, standIns := [], harness := (true, "ce57f03d2682978d54a37564e547d39feafcb72bac3f1ff2d3c33a71bcb5ad8f"), looks := false }, kinds := [], alts := [], laidByText := true, laidKinds := [.data, .pinned], laidTests := true, laidLooks := .later }
def ListSplitsUptoCardSaid : Prop := Claim7.holds Tryd.pinned (.plain (OpenSpec.upto listSplitsSpec)) listSplitsUptoCard

/-- THE SECOND FORM's CARD OF 'variantproxylaw07.ListBack'. -/
def listBackUptoCard : Claim7 := { stood := { row := listBackUptoRow, standIns := [], harness := (true, "ce57f03d2682978d54a37564e547d39feafcb72bac3f1ff2d3c33a71bcb5ad8f"), looks := false }, kinds := [], alts := [], laidByText := true, laidKinds := [.data, .pinned], laidTests := true, laidLooks := .later }
def ListBackUptoCardSaid : Prop := Claim7.holds Tryd.pinned (.plain (OpenSpec.upto listBackSpec)) listBackUptoCard

/-- THE SECOND FORM's CARD OF 'variantproxylaw21.EtagLines'. -/
def etagLinesUptoCard : Claim7 := { stood := { row := etagLinesUptoRow, standIns := [], harness := (true, "ce57f03d2682978d54a37564e547d39feafcb72bac3f1ff2d3c33a71bcb5ad8f"), looks := false }, kinds := [], alts := [], laidByText := true, laidKinds := [.data, .pinned], laidTests := true, laidLooks := .later }
def EtagLinesUptoCardSaid : Prop := Claim7.holds Tryd.pinned (.plain (OpenSpec.upto etagLinesSpec)) etagLinesUptoCard

/-- THE SECOND FORM's CARD OF 'variantproxylaw21.EtagLists'. -/
def etagListsUptoCard : Claim7 := { stood := { row := etagListsUptoRow, standIns := [], harness := (true, "ce57f03d2682978d54a37564e547d39feafcb72bac3f1ff2d3c33a71bcb5ad8f"), looks := false }, kinds := [], alts := [], laidByText := true, laidKinds := [.data, .pinned], laidTests := true, laidLooks := .later }
def EtagListsUptoCardSaid : Prop := Claim7.holds Tryd.pinned (.plain (OpenSpec.upto etagListsSpec)) etagListsUptoCard
end Rows
end Go.Proofs.YtggmjoffcdnplaaDoor
