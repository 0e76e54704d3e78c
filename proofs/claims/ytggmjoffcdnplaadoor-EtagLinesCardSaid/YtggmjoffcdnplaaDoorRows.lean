/-
  NARROWER THAN 'FOR EVERY INPUT', by the rows' own cells (each row's printed sentence says how): QvalueParses: laid · QvalueFormats: laid · QvalueZeros: laid · ListAll: laid · ListLines: laid · ListSplits: laid · ListBack: laid · EtagLines: laid · EtagLists: laid.
  DERIVED. THE GIVEN ROWS OF THIS SEAT. 9 by the template 'for every input the law returns true; each argument reads behind the call as it read before'; 0 by the template 'total and deterministic' (their statements: YtggmjoffcdnplaaDoorTotals.lean).
  GIVEN WITH THE SEED: the statements are not yours to turn. If you find one false, say at which input.
  Laid BY PROGRAM, IN A SANDBOX (cutbox-rows.mjs): the forced cells as the released guide's own fill.sh prints them over the translation ef7e80a9826b3393… (all of the seat's roots in one cut). By AI agents, Wed Nov 11 2026. No macro, syntax, notation, axiom, sorry.
-/
import Derived.Test.YtggmjoffcdnplaaDoorChecked
import GoSem.PinnedTables
import GoSem.Claim
import GoSem.ClaimJoined
import GoSem.ClaimMapViews
import Derived.JoinedTies
import Derived.KernelRfl
namespace Go.Proofs.YtggmjoffcdnplaaDoor
/- THE CELL 'sum', in the pinned program and in every row, IS THE sha256 OF THE DUMP (.gsa) THAT YtggmjoffcdnplaaDoorProg.lean LOADS. Nothing in Lean hashes anything: it is a label: what it is worth is what the hold of that sum in a sandbox is worth. -/
noncomputable def Tryd.pinned : Pinned := { name := "ytggmjoffcdnplaadoor", sum := "ef7e80a9826b33938ba642b7a37aec7b8e585626d761ab84f57d5351de0fabe2", checked := Tryd.checked }
namespace Rows
def none {H : Type} : Left H := { results := [], args := [] }

/- WHAT THE LISTED PACKAGE-LEVEL VARIABLES READ AS WHEN THE CALL BEGINS. Each datum BY PROGRAM (the guide's laid-datum.mjs) off the statement by which the dump's own 'gosem.cut.vars' lays the variable. In a bare row this is a premise. The card (YtggmjoffcdnplaaDoorCards.lean) ties it to the program's text. -/
def laid_unicode_utf8_acceptRanges {H : Type} : DataW H := .agg [.agg [.lit (.int .u8 128), .lit (.int .u8 191)], .agg [.lit (.int .u8 160), .lit (.int .u8 191)], .agg [.lit (.int .u8 128), .lit (.int .u8 159)], .agg [.lit (.int .u8 144), .lit (.int .u8 191)], .agg [.lit (.int .u8 128), .lit (.int .u8 143)], .agg [.lit (.int .u8 0), .lit (.int .u8 0)], .agg [.lit (.int .u8 0), .lit (.int .u8 0)], .agg [.lit (.int .u8 0), .lit (.int .u8 0)], .agg [.lit (.int .u8 0), .lit (.int .u8 0)], .agg [.lit (.int .u8 0), .lit (.int .u8 0)], .agg [.lit (.int .u8 0), .lit (.int .u8 0)], .agg [.lit (.int .u8 0), .lit (.int .u8 0)], .agg [.lit (.int .u8 0), .lit (.int .u8 0)], .agg [.lit (.int .u8 0), .lit (.int .u8 0)], .agg [.lit (.int .u8 0), .lit (.int .u8 0)], .agg [.lit (.int .u8 0), .lit (.int .u8 0)]]
/-- One of Go's own tables, pinned by name: the form's constant. -/
def laid_unicode_utf8_first : DataW Unit := Go.Pinned.utf8First

/-- 'variantproxylaw08.QvalueParses': WHATEVER THE INPUT: true; the input reads as it did. -/
def qvalueParsesSpec : ChangeSpec := { name := "qvalueParses", fn := fun _ => fun
  | [d] => { results := [.lit (.bool true)], args := [d] }
  | _ => none }
def qvalueParsesRow : OpenClaim := { program := "ytggmjoffcdnplaadoor", sum := "ef7e80a9826b33938ba642b7a37aec7b8e585626d761ab84f57d5351de0fabe2", func := "variantproxy/variantproxylaw08.QvalueParses", spec := "qvalueParses", inPlace := ["internal/bytealg.IndexByteString", "internal/bytealg.IndexString"], named := ["unicode/utf8.first", "unicode/utf8.acceptRanges", "internal/bytealg.MaxLen"], apart := false, laid := [("unicode/utf8.acceptRanges", laid_unicode_utf8_acceptRanges), ("unicode/utf8.first", laid_unicode_utf8_first)] }
def QvalueParsesSaid : Prop := qvalueParsesRow.holds Tryd.pinned (OpenSpec.ofChange qvalueParsesSpec)

/-- ITS FALSE NEIGHBOUR: 'it returns false'. Refute it at one input. -/
def qvalueParsesWrong : ChangeSpec := { name := "qvalueParses", fn := fun _ => fun
  | [d] => { results := [.lit (.bool false)], args := [d] }
  | _ => none }
def QvalueParsesWrongFalsely : Prop := qvalueParsesRow.holds Tryd.pinned (OpenSpec.ofChange qvalueParsesWrong)

/-- 'variantproxylaw08.QvalueFormats': WHATEVER THE INPUT: true; the input reads as it did. -/
def qvalueFormatsSpec : ChangeSpec := { name := "qvalueFormats", fn := fun _ => fun
  | [d] => { results := [.lit (.bool true)], args := [d] }
  | _ => none }
def qvalueFormatsRow : OpenClaim := { program := "ytggmjoffcdnplaadoor", sum := "ef7e80a9826b33938ba642b7a37aec7b8e585626d761ab84f57d5351de0fabe2", func := "variantproxy/variantproxylaw08.QvalueFormats", spec := "qvalueFormats", inPlace := ["internal/bytealg.IndexByteString", "internal/bytealg.IndexString"], named := ["unicode/utf8.first", "unicode/utf8.acceptRanges", "internal/bytealg.MaxLen"], apart := false, laid := [("unicode/utf8.acceptRanges", laid_unicode_utf8_acceptRanges), ("unicode/utf8.first", laid_unicode_utf8_first)] }
def QvalueFormatsSaid : Prop := qvalueFormatsRow.holds Tryd.pinned (OpenSpec.ofChange qvalueFormatsSpec)

/-- ITS FALSE NEIGHBOUR: 'it returns false'. Refute it at one input. -/
def qvalueFormatsWrong : ChangeSpec := { name := "qvalueFormats", fn := fun _ => fun
  | [d] => { results := [.lit (.bool false)], args := [d] }
  | _ => none }
def QvalueFormatsWrongFalsely : Prop := qvalueFormatsRow.holds Tryd.pinned (OpenSpec.ofChange qvalueFormatsWrong)

/-- 'variantproxylaw08.QvalueZeros': WHATEVER THE INPUT: true; the input reads as it did. -/
def qvalueZerosSpec : ChangeSpec := { name := "qvalueZeros", fn := fun _ => fun
  | [d] => { results := [.lit (.bool true)], args := [d] }
  | _ => none }
def qvalueZerosRow : OpenClaim := { program := "ytggmjoffcdnplaadoor", sum := "ef7e80a9826b33938ba642b7a37aec7b8e585626d761ab84f57d5351de0fabe2", func := "variantproxy/variantproxylaw08.QvalueZeros", spec := "qvalueZeros", inPlace := ["internal/bytealg.IndexByteString", "internal/bytealg.IndexString"], named := ["unicode/utf8.first", "unicode/utf8.acceptRanges", "internal/bytealg.MaxLen"], apart := false, laid := [("unicode/utf8.acceptRanges", laid_unicode_utf8_acceptRanges), ("unicode/utf8.first", laid_unicode_utf8_first)] }
def QvalueZerosSaid : Prop := qvalueZerosRow.holds Tryd.pinned (OpenSpec.ofChange qvalueZerosSpec)

/-- ITS FALSE NEIGHBOUR: 'it returns false'. Refute it at one input. -/
def qvalueZerosWrong : ChangeSpec := { name := "qvalueZeros", fn := fun _ => fun
  | [d] => { results := [.lit (.bool false)], args := [d] }
  | _ => none }
def QvalueZerosWrongFalsely : Prop := qvalueZerosRow.holds Tryd.pinned (OpenSpec.ofChange qvalueZerosWrong)

/-- 'variantproxylaw07.ListAll': WHATEVER THE INPUT: true; the input reads as it did. -/
def listAllSpec : ChangeSpec := { name := "listAll", fn := fun _ => fun
  | [d1, d2] => { results := [.lit (.bool true)], args := [d1, d2] }
  | _ => none }
def listAllRow : OpenClaim := { program := "ytggmjoffcdnplaadoor", sum := "ef7e80a9826b33938ba642b7a37aec7b8e585626d761ab84f57d5351de0fabe2", func := "variantproxy/variantproxylaw07.ListAll", spec := "listAll", inPlace := ["internal/bytealg.IndexByteString", "internal/bytealg.IndexString"], unfollowed := true, recurses := true, named := ["unicode/utf8.first", "unicode/utf8.acceptRanges", "internal/bytealg.MaxLen"], apart := false, laid := [("unicode/utf8.acceptRanges", laid_unicode_utf8_acceptRanges), ("unicode/utf8.first", laid_unicode_utf8_first)] }
def ListAllSaid : Prop := listAllRow.holds Tryd.pinned (OpenSpec.ofChange listAllSpec)

/-- ITS FALSE NEIGHBOUR: 'it returns false'. Refute it at one input. -/
def listAllWrong : ChangeSpec := { name := "listAll", fn := fun _ => fun
  | [d1, d2] => { results := [.lit (.bool false)], args := [d1, d2] }
  | _ => none }
def ListAllWrongFalsely : Prop := listAllRow.holds Tryd.pinned (OpenSpec.ofChange listAllWrong)

/-- 'variantproxylaw07.ListLines': WHATEVER THE INPUT: true; the input reads as it did. -/
def listLinesSpec : ChangeSpec := { name := "listLines", fn := fun _ => fun
  | [d1, d2, d3] => { results := [.lit (.bool true)], args := [d1, d2, d3] }
  | _ => none }
def listLinesRow : OpenClaim := { program := "ytggmjoffcdnplaadoor", sum := "ef7e80a9826b33938ba642b7a37aec7b8e585626d761ab84f57d5351de0fabe2", func := "variantproxy/variantproxylaw07.ListLines", spec := "listLines", inPlace := ["internal/bytealg.IndexByteString", "internal/bytealg.IndexString"], unfollowed := true, recurses := true, named := ["unicode/utf8.first", "unicode/utf8.acceptRanges", "internal/bytealg.MaxLen"], apart := false, laid := [("unicode/utf8.acceptRanges", laid_unicode_utf8_acceptRanges), ("unicode/utf8.first", laid_unicode_utf8_first)] }
def ListLinesSaid : Prop := listLinesRow.holds Tryd.pinned (OpenSpec.ofChange listLinesSpec)

/-- ITS FALSE NEIGHBOUR: 'it returns false'. Refute it at one input. -/
def listLinesWrong : ChangeSpec := { name := "listLines", fn := fun _ => fun
  | [d1, d2, d3] => { results := [.lit (.bool false)], args := [d1, d2, d3] }
  | _ => none }
def ListLinesWrongFalsely : Prop := listLinesRow.holds Tryd.pinned (OpenSpec.ofChange listLinesWrong)

/-- 'variantproxylaw07.ListSplits': WHATEVER THE INPUT: true; the input reads as it did. -/
def listSplitsSpec : ChangeSpec := { name := "listSplits", fn := fun _ => fun
  | [d1, d2] => { results := [.lit (.bool true)], args := [d1, d2] }
  | _ => none }
def listSplitsRow : OpenClaim := { program := "ytggmjoffcdnplaadoor", sum := "ef7e80a9826b33938ba642b7a37aec7b8e585626d761ab84f57d5351de0fabe2", func := "variantproxy/variantproxylaw07.ListSplits", spec := "listSplits", inPlace := ["internal/bytealg.IndexByteString", "internal/bytealg.IndexString", "internal/abi.NoEscape", "internal/bytealg.MakeNoZero"], named := ["unicode/utf8.first", "unicode/utf8.acceptRanges", "internal/bytealg.MaxLen"], apart := false, laid := [("unicode/utf8.acceptRanges", laid_unicode_utf8_acceptRanges), ("unicode/utf8.first", laid_unicode_utf8_first)] }
def ListSplitsSaid : Prop := listSplitsRow.holds Tryd.pinned (OpenSpec.ofChange listSplitsSpec)

/-- ITS FALSE NEIGHBOUR: 'it returns false'. Refute it at one input. -/
def listSplitsWrong : ChangeSpec := { name := "listSplits", fn := fun _ => fun
  | [d1, d2] => { results := [.lit (.bool false)], args := [d1, d2] }
  | _ => none }
def ListSplitsWrongFalsely : Prop := listSplitsRow.holds Tryd.pinned (OpenSpec.ofChange listSplitsWrong)

/-- 'variantproxylaw07.ListBack': WHATEVER THE INPUT: true; the input reads as it did. -/
def listBackSpec : ChangeSpec := { name := "listBack", fn := fun _ => fun
  | [d] => { results := [.lit (.bool true)], args := [d] }
  | _ => none }
def listBackRow : OpenClaim := { program := "ytggmjoffcdnplaadoor", sum := "ef7e80a9826b33938ba642b7a37aec7b8e585626d761ab84f57d5351de0fabe2", func := "variantproxy/variantproxylaw07.ListBack", spec := "listBack", inPlace := ["internal/bytealg.IndexByteString", "internal/bytealg.IndexString", "internal/abi.NoEscape", "internal/bytealg.MakeNoZero"], named := ["unicode/utf8.first", "unicode/utf8.acceptRanges", "internal/bytealg.MaxLen"], apart := false, laid := [("unicode/utf8.acceptRanges", laid_unicode_utf8_acceptRanges), ("unicode/utf8.first", laid_unicode_utf8_first)] }
def ListBackSaid : Prop := listBackRow.holds Tryd.pinned (OpenSpec.ofChange listBackSpec)

/-- ITS FALSE NEIGHBOUR: 'it returns false'. Refute it at one input. -/
def listBackWrong : ChangeSpec := { name := "listBack", fn := fun _ => fun
  | [d] => { results := [.lit (.bool false)], args := [d] }
  | _ => none }
def ListBackWrongFalsely : Prop := listBackRow.holds Tryd.pinned (OpenSpec.ofChange listBackWrong)

/-- 'variantproxylaw21.EtagLines': WHATEVER THE INPUT: true; the input reads as it did. -/
def etagLinesSpec : ChangeSpec := { name := "etagLines", fn := fun _ => fun
  | [d1, d2] => { results := [.lit (.bool true)], args := [d1, d2] }
  | _ => none }
def etagLinesRow : OpenClaim := { program := "ytggmjoffcdnplaadoor", sum := "ef7e80a9826b33938ba642b7a37aec7b8e585626d761ab84f57d5351de0fabe2", func := "variantproxy/variantproxylaw21.EtagLines", spec := "etagLines", inPlace := ["internal/bytealg.IndexByteString", "internal/bytealg.IndexString"], unfollowed := true, recurses := true, named := ["unicode/utf8.first", "unicode/utf8.acceptRanges", "internal/bytealg.MaxLen"], apart := false, laid := [("unicode/utf8.acceptRanges", laid_unicode_utf8_acceptRanges), ("unicode/utf8.first", laid_unicode_utf8_first)] }
def EtagLinesSaid : Prop := etagLinesRow.holds Tryd.pinned (OpenSpec.ofChange etagLinesSpec)

/-- ITS FALSE NEIGHBOUR: 'it returns false'. Refute it at one input. -/
def etagLinesWrong : ChangeSpec := { name := "etagLines", fn := fun _ => fun
  | [d1, d2] => { results := [.lit (.bool false)], args := [d1, d2] }
  | _ => none }
def EtagLinesWrongFalsely : Prop := etagLinesRow.holds Tryd.pinned (OpenSpec.ofChange etagLinesWrong)

/-- 'variantproxylaw21.EtagLists': WHATEVER THE INPUT: true; the input reads as it did. -/
def etagListsSpec : ChangeSpec := { name := "etagLists", fn := fun _ => fun
  | [d1, d2] => { results := [.lit (.bool true)], args := [d1, d2] }
  | _ => none }
def etagListsRow : OpenClaim := { program := "ytggmjoffcdnplaadoor", sum := "ef7e80a9826b33938ba642b7a37aec7b8e585626d761ab84f57d5351de0fabe2", func := "variantproxy/variantproxylaw21.EtagLists", spec := "etagLists", inPlace := ["internal/bytealg.IndexByteString", "internal/bytealg.IndexString"], unfollowed := true, recurses := true, named := ["unicode/utf8.first", "unicode/utf8.acceptRanges", "internal/bytealg.MaxLen"], apart := false, laid := [("unicode/utf8.acceptRanges", laid_unicode_utf8_acceptRanges), ("unicode/utf8.first", laid_unicode_utf8_first)] }
def EtagListsSaid : Prop := etagListsRow.holds Tryd.pinned (OpenSpec.ofChange etagListsSpec)

/-- ITS FALSE NEIGHBOUR: 'it returns false'. Refute it at one input. -/
def etagListsWrong : ChangeSpec := { name := "etagLists", fn := fun _ => fun
  | [d1, d2] => { results := [.lit (.bool false)], args := [d1, d2] }
  | _ => none }
def EtagListsWrongFalsely : Prop := etagListsRow.holds Tryd.pinned (OpenSpec.ofChange etagListsWrong)

/- THE SECOND FORM. 'bulk': how many values and letters a reading holds, each counted each time it is reached (what is shared counts as often as it is met; a slice's spare places count too). A statement '..UptoSaid' is the law's where the arguments, and the package variables that the reading takes, are together of bulk at most 1048576: NARROWER than '..Said'. Prove '..Said' where nothing that the law and all that it calls make is longer than what came in: it says more and counts as full. Else prove '..UptoSaid'. A law counts once. -/
mutual
def uptoBulk {H : Type} : DataW H → Nat
  | .lit (.string bytes) => bytes.length + 1
  | .lit _ => 1
  | .nil => 1
  | .ptr d => uptoBulk d + 1
  | .slice elems spare => uptoBulkAll elems + uptoBulkAll spare + 1
  | .agg parts => uptoBulkAll parts + 1
  | .iface _ d => uptoBulk d + 1
  | .map entries => uptoBulkEntries entries + 1
  | .held _ => 1
def uptoBulkAll {H : Type} : List (DataW H) → Nat
  | [] => 0
  | d :: r => uptoBulk d + uptoBulkAll r
def uptoBulkEntries {H : Type} : List (Lit × DataW H) → Nat
  | [] => 0
  | x :: r => uptoBulkEntry x + uptoBulkEntries r
def uptoBulkEntry {H : Type} : Lit × DataW H → Nat
  | (.string bytes, d) => bytes.length + uptoBulk d + 1
  | (_, d) => uptoBulk d + 1
 end
def uptoSmall : (H : Type) → List (DataW H) → Bool := fun _ ds => decide (uptoBulkAll ds ≤ 1048576)
def OpenSpec.upto (s : _root_.Go.ChangeSpec) : _root_.Go.OpenSpec := { _root_.Go.OpenSpec.ofChange s with cond := some uptoSmall }

/-- 'variantproxylaw08.QvalueParses', WHERE WHAT IT READS IS OF BULK AT MOST 1048576: true; the input reads as it did. -/
def qvalueParsesUptoRow : OpenClaim := { program := "ytggmjoffcdnplaadoor", sum := "ef7e80a9826b33938ba642b7a37aec7b8e585626d761ab84f57d5351de0fabe2", func := "variantproxy/variantproxylaw08.QvalueParses", spec := "qvalueParses", inPlace := ["internal/bytealg.IndexByteString", "internal/bytealg.IndexString"], named := ["unicode/utf8.first", "unicode/utf8.acceptRanges", "internal/bytealg.MaxLen"], apart := false, laid := [("unicode/utf8.acceptRanges", laid_unicode_utf8_acceptRanges), ("unicode/utf8.first", laid_unicode_utf8_first)], narrowed := true }
def QvalueParsesUptoSaid : Prop := qvalueParsesUptoRow.holds Tryd.pinned (OpenSpec.upto qvalueParsesSpec)

/-- 'variantproxylaw08.QvalueFormats', WHERE WHAT IT READS IS OF BULK AT MOST 1048576: true; the input reads as it did. -/
def qvalueFormatsUptoRow : OpenClaim := { program := "ytggmjoffcdnplaadoor", sum := "ef7e80a9826b33938ba642b7a37aec7b8e585626d761ab84f57d5351de0fabe2", func := "variantproxy/variantproxylaw08.QvalueFormats", spec := "qvalueFormats", inPlace := ["internal/bytealg.IndexByteString", "internal/bytealg.IndexString"], named := ["unicode/utf8.first", "unicode/utf8.acceptRanges", "internal/bytealg.MaxLen"], apart := false, laid := [("unicode/utf8.acceptRanges", laid_unicode_utf8_acceptRanges), ("unicode/utf8.first", laid_unicode_utf8_first)], narrowed := true }
def QvalueFormatsUptoSaid : Prop := qvalueFormatsUptoRow.holds Tryd.pinned (OpenSpec.upto qvalueFormatsSpec)

/-- 'variantproxylaw08.QvalueZeros', WHERE WHAT IT READS IS OF BULK AT MOST 1048576: true; the input reads as it did. -/
def qvalueZerosUptoRow : OpenClaim := { program := "ytggmjoffcdnplaadoor", sum := "ef7e80a9826b33938ba642b7a37aec7b8e585626d761ab84f57d5351de0fabe2", func := "variantproxy/variantproxylaw08.QvalueZeros", spec := "qvalueZeros", inPlace := ["internal/bytealg.IndexByteString", "internal/bytealg.IndexString"], named := ["unicode/utf8.first", "unicode/utf8.acceptRanges", "internal/bytealg.MaxLen"], apart := false, laid := [("unicode/utf8.acceptRanges", laid_unicode_utf8_acceptRanges), ("unicode/utf8.first", laid_unicode_utf8_first)], narrowed := true }
def QvalueZerosUptoSaid : Prop := qvalueZerosUptoRow.holds Tryd.pinned (OpenSpec.upto qvalueZerosSpec)

/-- 'variantproxylaw07.ListAll', WHERE WHAT IT READS IS OF BULK AT MOST 1048576: true; the input reads as it did. -/
def listAllUptoRow : OpenClaim := { program := "ytggmjoffcdnplaadoor", sum := "ef7e80a9826b33938ba642b7a37aec7b8e585626d761ab84f57d5351de0fabe2", func := "variantproxy/variantproxylaw07.ListAll", spec := "listAll", inPlace := ["internal/bytealg.IndexByteString", "internal/bytealg.IndexString"], unfollowed := true, recurses := true, named := ["unicode/utf8.first", "unicode/utf8.acceptRanges", "internal/bytealg.MaxLen"], apart := false, laid := [("unicode/utf8.acceptRanges", laid_unicode_utf8_acceptRanges), ("unicode/utf8.first", laid_unicode_utf8_first)], narrowed := true }
def ListAllUptoSaid : Prop := listAllUptoRow.holds Tryd.pinned (OpenSpec.upto listAllSpec)

/-- 'variantproxylaw07.ListLines', WHERE WHAT IT READS IS OF BULK AT MOST 1048576: true; the input reads as it did. -/
def listLinesUptoRow : OpenClaim := { program := "ytggmjoffcdnplaadoor", sum := "ef7e80a9826b33938ba642b7a37aec7b8e585626d761ab84f57d5351de0fabe2", func := "variantproxy/variantproxylaw07.ListLines", spec := "listLines", inPlace := ["internal/bytealg.IndexByteString", "internal/bytealg.IndexString"], unfollowed := true, recurses := true, named := ["unicode/utf8.first", "unicode/utf8.acceptRanges", "internal/bytealg.MaxLen"], apart := false, laid := [("unicode/utf8.acceptRanges", laid_unicode_utf8_acceptRanges), ("unicode/utf8.first", laid_unicode_utf8_first)], narrowed := true }
def ListLinesUptoSaid : Prop := listLinesUptoRow.holds Tryd.pinned (OpenSpec.upto listLinesSpec)

/-- 'variantproxylaw07.ListSplits', WHERE WHAT IT READS IS OF BULK AT MOST 1048576: true; the input reads as it did. -/
def listSplitsUptoRow : OpenClaim := { program := "ytggmjoffcdnplaadoor", sum := "ef7e80a9826b33938ba642b7a37aec7b8e585626d761ab84f57d5351de0fabe2", func := "variantproxy/variantproxylaw07.ListSplits", spec := "listSplits", inPlace := ["internal/bytealg.IndexByteString", "internal/bytealg.IndexString", "internal/abi.NoEscape", "internal/bytealg.MakeNoZero"], named := ["unicode/utf8.first", "unicode/utf8.acceptRanges", "internal/bytealg.MaxLen"], apart := false, laid := [("unicode/utf8.acceptRanges", laid_unicode_utf8_acceptRanges), ("unicode/utf8.first", laid_unicode_utf8_first)], narrowed := true }
def ListSplitsUptoSaid : Prop := listSplitsUptoRow.holds Tryd.pinned (OpenSpec.upto listSplitsSpec)

/-- 'variantproxylaw07.ListBack', WHERE WHAT IT READS IS OF BULK AT MOST 1048576: true; the input reads as it did. -/
def listBackUptoRow : OpenClaim := { program := "ytggmjoffcdnplaadoor", sum := "ef7e80a9826b33938ba642b7a37aec7b8e585626d761ab84f57d5351de0fabe2", func := "variantproxy/variantproxylaw07.ListBack", spec := "listBack", inPlace := ["internal/bytealg.IndexByteString", "internal/bytealg.IndexString", "internal/abi.NoEscape", "internal/bytealg.MakeNoZero"], named := ["unicode/utf8.first", "unicode/utf8.acceptRanges", "internal/bytealg.MaxLen"], apart := false, laid := [("unicode/utf8.acceptRanges", laid_unicode_utf8_acceptRanges), ("unicode/utf8.first", laid_unicode_utf8_first)], narrowed := true }
def ListBackUptoSaid : Prop := listBackUptoRow.holds Tryd.pinned (OpenSpec.upto listBackSpec)

/-- 'variantproxylaw21.EtagLines', WHERE WHAT IT READS IS OF BULK AT MOST 1048576: true; the input reads as it did. -/
def etagLinesUptoRow : OpenClaim := { program := "ytggmjoffcdnplaadoor", sum := "ef7e80a9826b33938ba642b7a37aec7b8e585626d761ab84f57d5351de0fabe2", func := "variantproxy/variantproxylaw21.EtagLines", spec := "etagLines", inPlace := ["internal/bytealg.IndexByteString", "internal/bytealg.IndexString"], unfollowed := true, recurses := true, named := ["unicode/utf8.first", "unicode/utf8.acceptRanges", "internal/bytealg.MaxLen"], apart := false, laid := [("unicode/utf8.acceptRanges", laid_unicode_utf8_acceptRanges), ("unicode/utf8.first", laid_unicode_utf8_first)], narrowed := true }
def EtagLinesUptoSaid : Prop := etagLinesUptoRow.holds Tryd.pinned (OpenSpec.upto etagLinesSpec)

/-- 'variantproxylaw21.EtagLists', WHERE WHAT IT READS IS OF BULK AT MOST 1048576: true; the input reads as it did. -/
def etagListsUptoRow : OpenClaim := { program := "ytggmjoffcdnplaadoor", sum := "ef7e80a9826b33938ba642b7a37aec7b8e585626d761ab84f57d5351de0fabe2", func := "variantproxy/variantproxylaw21.EtagLists", spec := "etagLists", inPlace := ["internal/bytealg.IndexByteString", "internal/bytealg.IndexString"], unfollowed := true, recurses := true, named := ["unicode/utf8.first", "unicode/utf8.acceptRanges", "internal/bytealg.MaxLen"], apart := false, laid := [("unicode/utf8.acceptRanges", laid_unicode_utf8_acceptRanges), ("unicode/utf8.first", laid_unicode_utf8_first)], narrowed := true }
def EtagListsUptoSaid : Prop := etagListsUptoRow.holds Tryd.pinned (OpenSpec.upto etagListsSpec)

end Rows
end Go.Proofs.YtggmjoffcdnplaaDoor
