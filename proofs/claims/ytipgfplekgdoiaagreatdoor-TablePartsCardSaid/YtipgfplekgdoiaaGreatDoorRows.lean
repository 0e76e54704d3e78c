/-
  NARROWER THAN 'FOR EVERY INPUT', by the rows' own cells (each row's printed sentence says how): TableFinds: laid · TablePuts: laid · TableJustifies: laid · TableParts: laid · TableFindsStored: laid · TableStaysValid: laid.
  DERIVED. THE GIVEN ROWS OF THIS SEAT. 6 by the template 'for every input the law returns true; each argument reads behind the call as it read before'; 0 by the template 'total and deterministic' (their statements: YtipgfplekgdoiaaGreatDoorTotals.lean).
  GIVEN WITH THE SEED: the statements are not yours to turn. If you find one false, say at which input.
  Laid BY PROGRAM, IN A SANDBOX (cutbox-rows.mjs): the forced cells as the released guide's own fill.sh prints them over the translation 33d65d95e4154257… (all of the seat's roots in one cut). By AI agents, Wed Nov 11 2026. No macro, syntax, notation, axiom, sorry.
-/
import Derived.Test.YtipgfplekgdoiaaGreatDoorChecked
import GoSem.PinnedTables
import GoSem.Claim
import GoSem.ClaimJoined
import GoSem.ClaimMapViews
import Derived.JoinedTies
import Derived.KernelRfl
namespace Go.Proofs.YtipgfplekgdoiaaGreatDoor
/- THE CELL 'sum', in the pinned program and in every row, IS THE sha256 OF THE DUMP (.gsa) THAT YtipgfplekgdoiaaGreatDoorProg.lean LOADS. Nothing in Lean hashes anything: it is a label: what it is worth is what the hold of that sum in a sandbox is worth. -/
noncomputable def Tryz.pinned : Pinned := { name := "ytipgfplekgdoiaagreatdoor", sum := "33d65d95e4154257368790d1078221296fb305c53777e516980e937e1a3509fe", checked := Tryz.checked }
namespace Rows
def none {H : Type} : Left H := { results := [], args := [] }

/- WHAT THE LISTED PACKAGE-LEVEL VARIABLES READ AS WHEN THE CALL BEGINS. Each datum BY PROGRAM (the guide's laid-datum.mjs) off the statement by which the dump's own 'gosem.cut.vars' lays the variable. In a bare row this is a premise. The card (YtipgfplekgdoiaaGreatDoorCards.lean) ties it to the program's text. -/
def laid_unicode_utf8_acceptRanges {H : Type} : DataW H := .agg [.agg [.lit (.int .u8 128), .lit (.int .u8 191)], .agg [.lit (.int .u8 160), .lit (.int .u8 191)], .agg [.lit (.int .u8 128), .lit (.int .u8 159)], .agg [.lit (.int .u8 144), .lit (.int .u8 191)], .agg [.lit (.int .u8 128), .lit (.int .u8 143)], .agg [.lit (.int .u8 0), .lit (.int .u8 0)], .agg [.lit (.int .u8 0), .lit (.int .u8 0)], .agg [.lit (.int .u8 0), .lit (.int .u8 0)], .agg [.lit (.int .u8 0), .lit (.int .u8 0)], .agg [.lit (.int .u8 0), .lit (.int .u8 0)], .agg [.lit (.int .u8 0), .lit (.int .u8 0)], .agg [.lit (.int .u8 0), .lit (.int .u8 0)], .agg [.lit (.int .u8 0), .lit (.int .u8 0)], .agg [.lit (.int .u8 0), .lit (.int .u8 0)], .agg [.lit (.int .u8 0), .lit (.int .u8 0)], .agg [.lit (.int .u8 0), .lit (.int .u8 0)]]
/-- One of Go's own tables, pinned by name: the form's constant. -/
def laid_unicode_utf8_first : DataW Unit := Go.Pinned.utf8First

/-- 'variantproxylaw27.TableFinds': WHATEVER THE INPUT: true; the input reads as it did. -/
def tableFindsSpec : ChangeSpec := { name := "tableFinds", fn := fun _ => fun
  | [d1, d2, d3] => { results := [.lit (.bool true)], args := [d1, d2, d3] }
  | _ => none }
def tableFindsRow : OpenClaim := { program := "ytipgfplekgdoiaagreatdoor", sum := "33d65d95e4154257368790d1078221296fb305c53777e516980e937e1a3509fe", func := "variantproxy/variantproxylaw27.TableFinds", spec := "tableFinds", inPlace := ["internal/bytealg.IndexByteString", "internal/bytealg.IndexString", "internal/abi.NoEscape", "internal/bytealg.MakeNoZero", "internal/bytealg.CountString", "slices.overlaps[string]", "slices.overlaps[int]"], unfollowed := true, recurses := true, named := ["unicode/utf8.first", "unicode/utf8.acceptRanges", "internal/bytealg.MaxLen"], apart := false, laid := [("unicode/utf8.acceptRanges", laid_unicode_utf8_acceptRanges), ("unicode/utf8.first", laid_unicode_utf8_first)] }
def TableFindsSaid : Prop := tableFindsRow.holds Tryz.pinned (OpenSpec.ofChange tableFindsSpec)

/-- ITS FALSE NEIGHBOUR: 'it returns false'. Refute it at one input. -/
def tableFindsWrong : ChangeSpec := { name := "tableFinds", fn := fun _ => fun
  | [d1, d2, d3] => { results := [.lit (.bool false)], args := [d1, d2, d3] }
  | _ => none }
def TableFindsWrongFalsely : Prop := tableFindsRow.holds Tryz.pinned (OpenSpec.ofChange tableFindsWrong)

/-- 'variantproxylaw27.TablePuts': WHATEVER THE INPUT: true; the input reads as it did. -/
def tablePutsSpec : ChangeSpec := { name := "tablePuts", fn := fun _ => fun
  | [d1, d2, d3, d4] => { results := [.lit (.bool true)], args := [d1, d2, d3, d4] }
  | _ => none }
def tablePutsRow : OpenClaim := { program := "ytipgfplekgdoiaagreatdoor", sum := "33d65d95e4154257368790d1078221296fb305c53777e516980e937e1a3509fe", func := "variantproxy/variantproxylaw27.TablePuts", spec := "tablePuts", inPlace := ["internal/bytealg.IndexByteString", "internal/bytealg.IndexString", "internal/abi.NoEscape", "internal/bytealg.MakeNoZero", "internal/bytealg.CountString", "slices.overlaps[string]", "slices.overlaps[int]"], unfollowed := true, recurses := true, named := ["unicode/utf8.first", "unicode/utf8.acceptRanges", "internal/bytealg.MaxLen"], apart := false, laid := [("unicode/utf8.acceptRanges", laid_unicode_utf8_acceptRanges), ("unicode/utf8.first", laid_unicode_utf8_first)] }
def TablePutsSaid : Prop := tablePutsRow.holds Tryz.pinned (OpenSpec.ofChange tablePutsSpec)

/-- ITS FALSE NEIGHBOUR: 'it returns false'. Refute it at one input. -/
def tablePutsWrong : ChangeSpec := { name := "tablePuts", fn := fun _ => fun
  | [d1, d2, d3, d4] => { results := [.lit (.bool false)], args := [d1, d2, d3, d4] }
  | _ => none }
def TablePutsWrongFalsely : Prop := tablePutsRow.holds Tryz.pinned (OpenSpec.ofChange tablePutsWrong)

/-- 'variantproxylaw27.TableJustifies': WHATEVER THE INPUT: true; the input reads as it did. -/
def tableJustifiesSpec : ChangeSpec := { name := "tableJustifies", fn := fun _ => fun
  | [d1, d2, d3] => { results := [.lit (.bool true)], args := [d1, d2, d3] }
  | _ => none }
def tableJustifiesRow : OpenClaim := { program := "ytipgfplekgdoiaagreatdoor", sum := "33d65d95e4154257368790d1078221296fb305c53777e516980e937e1a3509fe", func := "variantproxy/variantproxylaw27.TableJustifies", spec := "tableJustifies", inPlace := ["internal/bytealg.IndexByteString", "internal/bytealg.IndexString", "internal/abi.NoEscape", "internal/bytealg.MakeNoZero", "internal/bytealg.CountString", "slices.overlaps[string]", "slices.overlaps[int]"], unfollowed := true, recurses := true, named := ["unicode/utf8.first", "unicode/utf8.acceptRanges", "internal/bytealg.MaxLen"], apart := false, laid := [("unicode/utf8.acceptRanges", laid_unicode_utf8_acceptRanges), ("unicode/utf8.first", laid_unicode_utf8_first)] }
def TableJustifiesSaid : Prop := tableJustifiesRow.holds Tryz.pinned (OpenSpec.ofChange tableJustifiesSpec)

/-- ITS FALSE NEIGHBOUR: 'it returns false'. Refute it at one input. -/
def tableJustifiesWrong : ChangeSpec := { name := "tableJustifies", fn := fun _ => fun
  | [d1, d2, d3] => { results := [.lit (.bool false)], args := [d1, d2, d3] }
  | _ => none }
def TableJustifiesWrongFalsely : Prop := tableJustifiesRow.holds Tryz.pinned (OpenSpec.ofChange tableJustifiesWrong)

/-- 'variantproxylaw27.TableParts': WHATEVER THE INPUT: true; the input reads as it did. -/
def tablePartsSpec : ChangeSpec := { name := "tableParts", fn := fun _ => fun
  | [d1, d2, d3] => { results := [.lit (.bool true)], args := [d1, d2, d3] }
  | _ => none }
def tablePartsRow : OpenClaim := { program := "ytipgfplekgdoiaagreatdoor", sum := "33d65d95e4154257368790d1078221296fb305c53777e516980e937e1a3509fe", func := "variantproxy/variantproxylaw27.TableParts", spec := "tableParts", inPlace := ["internal/bytealg.IndexByteString", "internal/bytealg.IndexString", "internal/abi.NoEscape", "internal/bytealg.MakeNoZero", "internal/bytealg.CountString", "slices.overlaps[string]", "slices.overlaps[int]"], unfollowed := true, recurses := true, named := ["unicode/utf8.first", "unicode/utf8.acceptRanges", "internal/bytealg.MaxLen"], apart := false, laid := [("unicode/utf8.acceptRanges", laid_unicode_utf8_acceptRanges), ("unicode/utf8.first", laid_unicode_utf8_first)] }
def TablePartsSaid : Prop := tablePartsRow.holds Tryz.pinned (OpenSpec.ofChange tablePartsSpec)

/-- ITS FALSE NEIGHBOUR: 'it returns false'. Refute it at one input. -/
def tablePartsWrong : ChangeSpec := { name := "tableParts", fn := fun _ => fun
  | [d1, d2, d3] => { results := [.lit (.bool false)], args := [d1, d2, d3] }
  | _ => none }
def TablePartsWrongFalsely : Prop := tablePartsRow.holds Tryz.pinned (OpenSpec.ofChange tablePartsWrong)

/-- 'variantproxylaw27.TableFindsStored': WHATEVER THE INPUT: true; the input reads as it did. -/
def tableFindsStoredSpec : ChangeSpec := { name := "tableFindsStored", fn := fun _ => fun
  | [d1, d2, d3, d4] => { results := [.lit (.bool true)], args := [d1, d2, d3, d4] }
  | _ => none }
def tableFindsStoredRow : OpenClaim := { program := "ytipgfplekgdoiaagreatdoor", sum := "33d65d95e4154257368790d1078221296fb305c53777e516980e937e1a3509fe", func := "variantproxy/variantproxylaw27.TableFindsStored", spec := "tableFindsStored", inPlace := ["internal/bytealg.IndexByteString", "internal/bytealg.IndexString", "internal/abi.NoEscape", "internal/bytealg.MakeNoZero", "internal/bytealg.CountString", "slices.overlaps[string]", "slices.overlaps[int]"], unfollowed := true, recurses := true, named := ["unicode/utf8.first", "unicode/utf8.acceptRanges", "internal/bytealg.MaxLen"], apart := false, laid := [("unicode/utf8.acceptRanges", laid_unicode_utf8_acceptRanges), ("unicode/utf8.first", laid_unicode_utf8_first)] }
def TableFindsStoredSaid : Prop := tableFindsStoredRow.holds Tryz.pinned (OpenSpec.ofChange tableFindsStoredSpec)

/-- ITS FALSE NEIGHBOUR: 'it returns false'. Refute it at one input. -/
def tableFindsStoredWrong : ChangeSpec := { name := "tableFindsStored", fn := fun _ => fun
  | [d1, d2, d3, d4] => { results := [.lit (.bool false)], args := [d1, d2, d3, d4] }
  | _ => none }
def TableFindsStoredWrongFalsely : Prop := tableFindsStoredRow.holds Tryz.pinned (OpenSpec.ofChange tableFindsStoredWrong)

/-- 'variantproxylaw27.TableStaysValid': WHATEVER THE INPUT: true; the input reads as it did. -/
def tableStaysValidSpec : ChangeSpec := { name := "tableStaysValid", fn := fun _ => fun
  | [d1, d2, d3, d4] => { results := [.lit (.bool true)], args := [d1, d2, d3, d4] }
  | _ => none }
def tableStaysValidRow : OpenClaim := { program := "ytipgfplekgdoiaagreatdoor", sum := "33d65d95e4154257368790d1078221296fb305c53777e516980e937e1a3509fe", func := "variantproxy/variantproxylaw27.TableStaysValid", spec := "tableStaysValid", inPlace := ["internal/bytealg.IndexByteString", "internal/bytealg.IndexString", "internal/abi.NoEscape", "internal/bytealg.MakeNoZero", "internal/bytealg.CountString", "slices.overlaps[string]", "slices.overlaps[int]"], unfollowed := true, recurses := true, named := ["unicode/utf8.first", "unicode/utf8.acceptRanges", "internal/bytealg.MaxLen"], apart := false, laid := [("unicode/utf8.acceptRanges", laid_unicode_utf8_acceptRanges), ("unicode/utf8.first", laid_unicode_utf8_first)] }
def TableStaysValidSaid : Prop := tableStaysValidRow.holds Tryz.pinned (OpenSpec.ofChange tableStaysValidSpec)

/-- ITS FALSE NEIGHBOUR: 'it returns false'. Refute it at one input. -/
def tableStaysValidWrong : ChangeSpec := { name := "tableStaysValid", fn := fun _ => fun
  | [d1, d2, d3, d4] => { results := [.lit (.bool false)], args := [d1, d2, d3, d4] }
  | _ => none }
def TableStaysValidWrongFalsely : Prop := tableStaysValidRow.holds Tryz.pinned (OpenSpec.ofChange tableStaysValidWrong)

/- THE SECOND FORM. 'bulk': how many values and letters a reading holds, each counted each time it is reached (what is shared counts as often as it is met; a slice's spare places count too). A statement '..UptoSaid' is the law's where the arguments, and the package variables that the reading takes, are together of bulk at most 1048576: NARROWER than '..Said'. Prove '..Said' where nothing that the law and all that it calls make is longer than what came in: it says more and counts as full. Else prove '..UptoSaid'. A law counts once. -/
mutual
def uptoBulk {H : Type} : DataW H → Nat
  | .lit (.string bytes) => bytes.length + 1
  | .lit _ => 1
  | .nil => 1
  | .ptr d => uptoBulk d + 1
  | .slice elems spare => uptoBulkAll elems + uptoBulkAll spare + 1
  | .agg parts => uptoBulkAll parts + 1
  | .iface _ d => uptoBulk d + 1
  | .map entries => uptoBulkEntries entries + 1
  | .held _ => 1
def uptoBulkAll {H : Type} : List (DataW H) → Nat
  | [] => 0
  | d :: r => uptoBulk d + uptoBulkAll r
def uptoBulkEntries {H : Type} : List (Lit × DataW H) → Nat
  | [] => 0
  | x :: r => uptoBulkEntry x + uptoBulkEntries r
def uptoBulkEntry {H : Type} : Lit × DataW H → Nat
  | (.string bytes, d) => bytes.length + uptoBulk d + 1
  | (_, d) => uptoBulk d + 1
 end
def uptoSmall : (H : Type) → List (DataW H) → Bool := fun _ ds => decide (uptoBulkAll ds ≤ 1048576)
def OpenSpec.upto (s : _root_.Go.ChangeSpec) : _root_.Go.OpenSpec := { _root_.Go.OpenSpec.ofChange s with cond := some uptoSmall }

/-- 'variantproxylaw27.TableFinds', WHERE WHAT IT READS IS OF BULK AT MOST 1048576: true; the input reads as it did. -/
def tableFindsUptoRow : OpenClaim := { program := "ytipgfplekgdoiaagreatdoor", sum := "33d65d95e4154257368790d1078221296fb305c53777e516980e937e1a3509fe", func := "variantproxy/variantproxylaw27.TableFinds", spec := "tableFinds", inPlace := ["internal/bytealg.IndexByteString", "internal/bytealg.IndexString", "internal/abi.NoEscape", "internal/bytealg.MakeNoZero", "internal/bytealg.CountString", "slices.overlaps[string]", "slices.overlaps[int]"], unfollowed := true, recurses := true, named := ["unicode/utf8.first", "unicode/utf8.acceptRanges", "internal/bytealg.MaxLen"], apart := false, laid := [("unicode/utf8.acceptRanges", laid_unicode_utf8_acceptRanges), ("unicode/utf8.first", laid_unicode_utf8_first)], narrowed := true }
def TableFindsUptoSaid : Prop := tableFindsUptoRow.holds Tryz.pinned (OpenSpec.upto tableFindsSpec)

/-- 'variantproxylaw27.TablePuts', WHERE WHAT IT READS IS OF BULK AT MOST 1048576: true; the input reads as it did. -/
def tablePutsUptoRow : OpenClaim := { program := "ytipgfplekgdoiaagreatdoor", sum := "33d65d95e4154257368790d1078221296fb305c53777e516980e937e1a3509fe", func := "variantproxy/variantproxylaw27.TablePuts", spec := "tablePuts", inPlace := ["internal/bytealg.IndexByteString", "internal/bytealg.IndexString", "internal/abi.NoEscape", "internal/bytealg.MakeNoZero", "internal/bytealg.CountString", "slices.overlaps[string]", "slices.overlaps[int]"], unfollowed := true, recurses := true, named := ["unicode/utf8.first", "unicode/utf8.acceptRanges", "internal/bytealg.MaxLen"], apart := false, laid := [("unicode/utf8.acceptRanges", laid_unicode_utf8_acceptRanges), ("unicode/utf8.first", laid_unicode_utf8_first)], narrowed := true }
def TablePutsUptoSaid : Prop := tablePutsUptoRow.holds Tryz.pinned (OpenSpec.upto tablePutsSpec)

/-- 'variantproxylaw27.TableJustifies', WHERE WHAT IT READS IS OF BULK AT MOST 1048576: true; the input reads as it did. -/
def tableJustifiesUptoRow : OpenClaim := { program := "ytipgfplekgdoiaagreatdoor", sum := "33d65d95e4154257368790d1078221296fb305c53777e516980e937e1a3509fe", func := "variantproxy/variantproxylaw27.TableJustifies", spec := "tableJustifies", inPlace := ["internal/bytealg.IndexByteString", "internal/bytealg.IndexString", "internal/abi.NoEscape", "internal/bytealg.MakeNoZero", "internal/bytealg.CountString", "slices.overlaps[string]", "slices.overlaps[int]"], unfollowed := true, recurses := true, named := ["unicode/utf8.first", "unicode/utf8.acceptRanges", "internal/bytealg.MaxLen"], apart := false, laid := [("unicode/utf8.acceptRanges", laid_unicode_utf8_acceptRanges), ("unicode/utf8.first", laid_unicode_utf8_first)], narrowed := true }
def TableJustifiesUptoSaid : Prop := tableJustifiesUptoRow.holds Tryz.pinned (OpenSpec.upto tableJustifiesSpec)

/-- 'variantproxylaw27.TableParts', WHERE WHAT IT READS IS OF BULK AT MOST 1048576: true; the input reads as it did. -/
def tablePartsUptoRow : OpenClaim := { program := "ytipgfplekgdoiaagreatdoor", sum := "33d65d95e4154257368790d1078221296fb305c53777e516980e937e1a3509fe", func := "variantproxy/variantproxylaw27.TableParts", spec := "tableParts", inPlace := ["internal/bytealg.IndexByteString", "internal/bytealg.IndexString", "internal/abi.NoEscape", "internal/bytealg.MakeNoZero", "internal/bytealg.CountString", "slices.overlaps[string]", "slices.overlaps[int]"], unfollowed := true, recurses := true, named := ["unicode/utf8.first", "unicode/utf8.acceptRanges", "internal/bytealg.MaxLen"], apart := false, laid := [("unicode/utf8.acceptRanges", laid_unicode_utf8_acceptRanges), ("unicode/utf8.first", laid_unicode_utf8_first)], narrowed := true }
def TablePartsUptoSaid : Prop := tablePartsUptoRow.holds Tryz.pinned (OpenSpec.upto tablePartsSpec)

/-- 'variantproxylaw27.TableFindsStored', WHERE WHAT IT READS IS OF BULK AT MOST 1048576: true; the input reads as it did. -/
def tableFindsStoredUptoRow : OpenClaim := { program := "ytipgfplekgdoiaagreatdoor", sum := "33d65d95e4154257368790d1078221296fb305c53777e516980e937e1a3509fe", func := "variantproxy/variantproxylaw27.TableFindsStored", spec := "tableFindsStored", inPlace := ["internal/bytealg.IndexByteString", "internal/bytealg.IndexString", "internal/abi.NoEscape", "internal/bytealg.MakeNoZero", "internal/bytealg.CountString", "slices.overlaps[string]", "slices.overlaps[int]"], unfollowed := true, recurses := true, named := ["unicode/utf8.first", "unicode/utf8.acceptRanges", "internal/bytealg.MaxLen"], apart := false, laid := [("unicode/utf8.acceptRanges", laid_unicode_utf8_acceptRanges), ("unicode/utf8.first", laid_unicode_utf8_first)], narrowed := true }
def TableFindsStoredUptoSaid : Prop := tableFindsStoredUptoRow.holds Tryz.pinned (OpenSpec.upto tableFindsStoredSpec)

/-- 'variantproxylaw27.TableStaysValid', WHERE WHAT IT READS IS OF BULK AT MOST 1048576: true; the input reads as it did. -/
def tableStaysValidUptoRow : OpenClaim := { program := "ytipgfplekgdoiaagreatdoor", sum := "33d65d95e4154257368790d1078221296fb305c53777e516980e937e1a3509fe", func := "variantproxy/variantproxylaw27.TableStaysValid", spec := "tableStaysValid", inPlace := ["internal/bytealg.IndexByteString", "internal/bytealg.IndexString", "internal/abi.NoEscape", "internal/bytealg.MakeNoZero", "internal/bytealg.CountString", "slices.overlaps[string]", "slices.overlaps[int]"], unfollowed := true, recurses := true, named := ["unicode/utf8.first", "unicode/utf8.acceptRanges", "internal/bytealg.MaxLen"], apart := false, laid := [("unicode/utf8.acceptRanges", laid_unicode_utf8_acceptRanges), ("unicode/utf8.first", laid_unicode_utf8_first)], narrowed := true }
def TableStaysValidUptoSaid : Prop := tableStaysValidUptoRow.holds Tryz.pinned (OpenSpec.upto tableStaysValidSpec)

end Rows
end Go.Proofs.YtipgfplekgdoiaaGreatDoor
