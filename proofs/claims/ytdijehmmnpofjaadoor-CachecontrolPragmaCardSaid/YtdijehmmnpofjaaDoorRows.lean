/-
  NARROWER THAN 'FOR EVERY INPUT', by the rows' own cells (each row's printed sentence says how): CachecontrolFirst: laid · CachecontrolForms: laid · CachecontrolReads: laid · CachecontrolOverflow: laid · CachecontrolPragma: laid · FreshnessLifetimes: laid · FreshnessAges: laid · FreshnessDecides: laid · FreshnessGrows: laid · FreshnessFalls: laid · FreshnessStrict: laid.
  DERIVED. THE GIVEN ROWS OF THIS SEAT. 11 by the template 'for every input the law returns true; each argument reads behind the call as it read before'; 0 by the template 'total and deterministic' (their statements: YtdijehmmnpofjaaDoorTotals.lean).
  GIVEN WITH THE SEED: the statements are not yours to turn. If you find one false, say at which input.
  Laid BY PROGRAM, IN A SANDBOX (cutbox-rows.mjs): the forced cells as the released guide's own fill.sh prints them over the translation dffcfb3b18c8ec66… (all of the seat's roots in one cut). By AI agents, Wed Nov 11 2026. No macro, syntax, notation, axiom, sorry.
-/
import Derived.Test.YtdijehmmnpofjaaDoorChecked
import GoSem.PinnedTables
import GoSem.Claim
import GoSem.ClaimJoined
import GoSem.ClaimMapViews
import Derived.JoinedTies
import Derived.KernelRfl
namespace Go.Proofs.YtdijehmmnpofjaaDoor
/- THE CELL 'sum', in the pinned program and in every row, IS THE sha256 OF THE DUMP (.gsa) THAT YtdijehmmnpofjaaDoorProg.lean LOADS. Nothing in Lean hashes anything: it is a label: what it is worth is what the hold of that sum in a sandbox is worth. -/
noncomputable def Tryd.pinned : Pinned := { name := "ytdijehmmnpofjaadoor", sum := "dffcfb3b18c8ec6601adef94142731aa92dbb54a5e212756ab90dfe8d30be055", checked := Tryd.checked }
namespace Rows
def none {H : Type} : Left H := { results := [], args := [] }

/- WHAT THE LISTED PACKAGE-LEVEL VARIABLES READ AS WHEN THE CALL BEGINS. Each datum BY PROGRAM (the guide's laid-datum.mjs) off the statement by which the dump's own 'gosem.cut.vars' lays the variable. In a bare row this is a premise. The card (YtdijehmmnpofjaaDoorCards.lean) ties it to the program's text. -/
def laid_unicode_utf8_acceptRanges {H : Type} : DataW H := .agg [.agg [.lit (.int .u8 128), .lit (.int .u8 191)], .agg [.lit (.int .u8 160), .lit (.int .u8 191)], .agg [.lit (.int .u8 128), .lit (.int .u8 159)], .agg [.lit (.int .u8 144), .lit (.int .u8 191)], .agg [.lit (.int .u8 128), .lit (.int .u8 143)], .agg [.lit (.int .u8 0), .lit (.int .u8 0)], .agg [.lit (.int .u8 0), .lit (.int .u8 0)], .agg [.lit (.int .u8 0), .lit (.int .u8 0)], .agg [.lit (.int .u8 0), .lit (.int .u8 0)], .agg [.lit (.int .u8 0), .lit (.int .u8 0)], .agg [.lit (.int .u8 0), .lit (.int .u8 0)], .agg [.lit (.int .u8 0), .lit (.int .u8 0)], .agg [.lit (.int .u8 0), .lit (.int .u8 0)], .agg [.lit (.int .u8 0), .lit (.int .u8 0)], .agg [.lit (.int .u8 0), .lit (.int .u8 0)], .agg [.lit (.int .u8 0), .lit (.int .u8 0)]]
/-- One of Go's own tables, pinned by name: the form's constant. -/
def laid_unicode_utf8_first : DataW Unit := Go.Pinned.utf8First

/-- 'variantproxylaw22.CachecontrolFirst': WHATEVER THE INPUT: true; the input reads as it did. -/
def cachecontrolFirstSpec : ChangeSpec := { name := "cachecontrolFirst", fn := fun _ => fun
  | [d1, d2, d3] => { results := [.lit (.bool true)], args := [d1, d2, d3] }
  | _ => none }
def cachecontrolFirstRow : OpenClaim := { program := "ytdijehmmnpofjaadoor", sum := "dffcfb3b18c8ec6601adef94142731aa92dbb54a5e212756ab90dfe8d30be055", func := "variantproxy/variantproxylaw22.CachecontrolFirst", spec := "cachecontrolFirst", inPlace := ["internal/bytealg.IndexByteString", "internal/bytealg.IndexString"], unfollowed := true, recurses := true, named := ["unicode/utf8.first", "unicode/utf8.acceptRanges", "internal/bytealg.MaxLen"], apart := false, laid := [("unicode/utf8.acceptRanges", laid_unicode_utf8_acceptRanges), ("unicode/utf8.first", laid_unicode_utf8_first)] }
def CachecontrolFirstSaid : Prop := cachecontrolFirstRow.holds Tryd.pinned (OpenSpec.ofChange cachecontrolFirstSpec)

/-- ITS FALSE NEIGHBOUR: 'it returns false'. Refute it at one input. -/
def cachecontrolFirstWrong : ChangeSpec := { name := "cachecontrolFirst", fn := fun _ => fun
  | [d1, d2, d3] => { results := [.lit (.bool false)], args := [d1, d2, d3] }
  | _ => none }
def CachecontrolFirstWrongFalsely : Prop := cachecontrolFirstRow.holds Tryd.pinned (OpenSpec.ofChange cachecontrolFirstWrong)

/-- 'variantproxylaw22.CachecontrolForms': WHATEVER THE INPUT: true; the input reads as it did. -/
def cachecontrolFormsSpec : ChangeSpec := { name := "cachecontrolForms", fn := fun _ => fun
  | [d1, d2] => { results := [.lit (.bool true)], args := [d1, d2] }
  | _ => none }
def cachecontrolFormsRow : OpenClaim := { program := "ytdijehmmnpofjaadoor", sum := "dffcfb3b18c8ec6601adef94142731aa92dbb54a5e212756ab90dfe8d30be055", func := "variantproxy/variantproxylaw22.CachecontrolForms", spec := "cachecontrolForms", inPlace := ["internal/bytealg.IndexByteString", "internal/bytealg.IndexString"], unfollowed := true, recurses := true, named := ["unicode/utf8.first", "unicode/utf8.acceptRanges", "internal/bytealg.MaxLen"], apart := false, laid := [("unicode/utf8.acceptRanges", laid_unicode_utf8_acceptRanges), ("unicode/utf8.first", laid_unicode_utf8_first)] }
def CachecontrolFormsSaid : Prop := cachecontrolFormsRow.holds Tryd.pinned (OpenSpec.ofChange cachecontrolFormsSpec)

/-- ITS FALSE NEIGHBOUR: 'it returns false'. Refute it at one input. -/
def cachecontrolFormsWrong : ChangeSpec := { name := "cachecontrolForms", fn := fun _ => fun
  | [d1, d2] => { results := [.lit (.bool false)], args := [d1, d2] }
  | _ => none }
def CachecontrolFormsWrongFalsely : Prop := cachecontrolFormsRow.holds Tryd.pinned (OpenSpec.ofChange cachecontrolFormsWrong)

/-- 'variantproxylaw22.CachecontrolReads': WHATEVER THE INPUT: true; the input reads as it did. -/
def cachecontrolReadsSpec : ChangeSpec := { name := "cachecontrolReads", fn := fun _ => fun
  | [d] => { results := [.lit (.bool true)], args := [d] }
  | _ => none }
def cachecontrolReadsRow : OpenClaim := { program := "ytdijehmmnpofjaadoor", sum := "dffcfb3b18c8ec6601adef94142731aa92dbb54a5e212756ab90dfe8d30be055", func := "variantproxy/variantproxylaw22.CachecontrolReads", spec := "cachecontrolReads", inPlace := ["internal/bytealg.IndexByteString", "internal/bytealg.IndexString"], unfollowed := true, recurses := true, named := ["unicode/utf8.first", "unicode/utf8.acceptRanges", "internal/bytealg.MaxLen"], apart := false, laid := [("unicode/utf8.acceptRanges", laid_unicode_utf8_acceptRanges), ("unicode/utf8.first", laid_unicode_utf8_first)] }
def CachecontrolReadsSaid : Prop := cachecontrolReadsRow.holds Tryd.pinned (OpenSpec.ofChange cachecontrolReadsSpec)

/-- ITS FALSE NEIGHBOUR: 'it returns false'. Refute it at one input. -/
def cachecontrolReadsWrong : ChangeSpec := { name := "cachecontrolReads", fn := fun _ => fun
  | [d] => { results := [.lit (.bool false)], args := [d] }
  | _ => none }
def CachecontrolReadsWrongFalsely : Prop := cachecontrolReadsRow.holds Tryd.pinned (OpenSpec.ofChange cachecontrolReadsWrong)

/-- 'variantproxylaw22.CachecontrolOverflow': WHATEVER THE INPUT: true; the input reads as it did. -/
def cachecontrolOverflowSpec : ChangeSpec := { name := "cachecontrolOverflow", fn := fun _ => fun
  | [d1, d2] => { results := [.lit (.bool true)], args := [d1, d2] }
  | _ => none }
def cachecontrolOverflowRow : OpenClaim := { program := "ytdijehmmnpofjaadoor", sum := "dffcfb3b18c8ec6601adef94142731aa92dbb54a5e212756ab90dfe8d30be055", func := "variantproxy/variantproxylaw22.CachecontrolOverflow", spec := "cachecontrolOverflow", inPlace := ["internal/bytealg.IndexByteString", "internal/bytealg.IndexString"], unfollowed := true, recurses := true, named := ["unicode/utf8.first", "unicode/utf8.acceptRanges", "internal/bytealg.MaxLen"], apart := false, laid := [("unicode/utf8.acceptRanges", laid_unicode_utf8_acceptRanges), ("unicode/utf8.first", laid_unicode_utf8_first)] }
def CachecontrolOverflowSaid : Prop := cachecontrolOverflowRow.holds Tryd.pinned (OpenSpec.ofChange cachecontrolOverflowSpec)

/-- ITS FALSE NEIGHBOUR: 'it returns false'. Refute it at one input. -/
def cachecontrolOverflowWrong : ChangeSpec := { name := "cachecontrolOverflow", fn := fun _ => fun
  | [d1, d2] => { results := [.lit (.bool false)], args := [d1, d2] }
  | _ => none }
def CachecontrolOverflowWrongFalsely : Prop := cachecontrolOverflowRow.holds Tryd.pinned (OpenSpec.ofChange cachecontrolOverflowWrong)

/-- 'variantproxylaw22.CachecontrolPragma': WHATEVER THE INPUT: true; the input reads as it did. -/
def cachecontrolPragmaSpec : ChangeSpec := { name := "cachecontrolPragma", fn := fun _ => fun
  | [d1, d2] => { results := [.lit (.bool true)], args := [d1, d2] }
  | _ => none }
def cachecontrolPragmaRow : OpenClaim := { program := "ytdijehmmnpofjaadoor", sum := "dffcfb3b18c8ec6601adef94142731aa92dbb54a5e212756ab90dfe8d30be055", func := "variantproxy/variantproxylaw22.CachecontrolPragma", spec := "cachecontrolPragma", inPlace := ["internal/bytealg.IndexByteString", "internal/bytealg.IndexString"], unfollowed := true, recurses := true, named := ["unicode/utf8.first", "unicode/utf8.acceptRanges", "internal/bytealg.MaxLen"], apart := false, laid := [("unicode/utf8.acceptRanges", laid_unicode_utf8_acceptRanges), ("unicode/utf8.first", laid_unicode_utf8_first)] }
def CachecontrolPragmaSaid : Prop := cachecontrolPragmaRow.holds Tryd.pinned (OpenSpec.ofChange cachecontrolPragmaSpec)

/-- ITS FALSE NEIGHBOUR: 'it returns false'. Refute it at one input. -/
def cachecontrolPragmaWrong : ChangeSpec := { name := "cachecontrolPragma", fn := fun _ => fun
  | [d1, d2] => { results := [.lit (.bool false)], args := [d1, d2] }
  | _ => none }
def CachecontrolPragmaWrongFalsely : Prop := cachecontrolPragmaRow.holds Tryd.pinned (OpenSpec.ofChange cachecontrolPragmaWrong)

/-- 'variantproxylaw23.FreshnessLifetimes': WHATEVER THE INPUT: true; the input reads as it did. -/
def freshnessLifetimesSpec : ChangeSpec := { name := "freshnessLifetimes", fn := fun _ => fun
  | [d1, d2] => { results := [.lit (.bool true)], args := [d1, d2] }
  | _ => none }
def freshnessLifetimesRow : OpenClaim := { program := "ytdijehmmnpofjaadoor", sum := "dffcfb3b18c8ec6601adef94142731aa92dbb54a5e212756ab90dfe8d30be055", func := "variantproxy/variantproxylaw23.FreshnessLifetimes", spec := "freshnessLifetimes", inPlace := ["internal/bytealg.IndexByteString", "internal/bytealg.IndexString"], unfollowed := true, recurses := true, named := ["unicode/utf8.first", "unicode/utf8.acceptRanges", "internal/bytealg.MaxLen"], apart := false, laid := [("unicode/utf8.acceptRanges", laid_unicode_utf8_acceptRanges), ("unicode/utf8.first", laid_unicode_utf8_first)] }
def FreshnessLifetimesSaid : Prop := freshnessLifetimesRow.holds Tryd.pinned (OpenSpec.ofChange freshnessLifetimesSpec)

/-- ITS FALSE NEIGHBOUR: 'it returns false'. Refute it at one input. -/
def freshnessLifetimesWrong : ChangeSpec := { name := "freshnessLifetimes", fn := fun _ => fun
  | [d1, d2] => { results := [.lit (.bool false)], args := [d1, d2] }
  | _ => none }
def FreshnessLifetimesWrongFalsely : Prop := freshnessLifetimesRow.holds Tryd.pinned (OpenSpec.ofChange freshnessLifetimesWrong)

/-- 'variantproxylaw23.FreshnessAges': WHATEVER THE INPUT: true; the input reads as it did. -/
def freshnessAgesSpec : ChangeSpec := { name := "freshnessAges", fn := fun _ => fun
  | [d1, d2, d3, d4] => { results := [.lit (.bool true)], args := [d1, d2, d3, d4] }
  | _ => none }
def freshnessAgesRow : OpenClaim := { program := "ytdijehmmnpofjaadoor", sum := "dffcfb3b18c8ec6601adef94142731aa92dbb54a5e212756ab90dfe8d30be055", func := "variantproxy/variantproxylaw23.FreshnessAges", spec := "freshnessAges", inPlace := ["internal/bytealg.IndexByteString", "internal/bytealg.IndexString"], unfollowed := true, recurses := true, named := ["unicode/utf8.first", "unicode/utf8.acceptRanges", "internal/bytealg.MaxLen"], apart := false, laid := [("unicode/utf8.acceptRanges", laid_unicode_utf8_acceptRanges), ("unicode/utf8.first", laid_unicode_utf8_first)] }
def FreshnessAgesSaid : Prop := freshnessAgesRow.holds Tryd.pinned (OpenSpec.ofChange freshnessAgesSpec)

/-- ITS FALSE NEIGHBOUR: 'it returns false'. Refute it at one input. -/
def freshnessAgesWrong : ChangeSpec := { name := "freshnessAges", fn := fun _ => fun
  | [d1, d2, d3, d4] => { results := [.lit (.bool false)], args := [d1, d2, d3, d4] }
  | _ => none }
def FreshnessAgesWrongFalsely : Prop := freshnessAgesRow.holds Tryd.pinned (OpenSpec.ofChange freshnessAgesWrong)

/-- 'variantproxylaw23.FreshnessDecides': WHATEVER THE INPUT: true; the input reads as it did. -/
def freshnessDecidesSpec : ChangeSpec := { name := "freshnessDecides", fn := fun _ => fun
  | [d1, d2, d3, d4] => { results := [.lit (.bool true)], args := [d1, d2, d3, d4] }
  | _ => none }
def freshnessDecidesRow : OpenClaim := { program := "ytdijehmmnpofjaadoor", sum := "dffcfb3b18c8ec6601adef94142731aa92dbb54a5e212756ab90dfe8d30be055", func := "variantproxy/variantproxylaw23.FreshnessDecides", spec := "freshnessDecides", inPlace := ["internal/bytealg.IndexByteString", "internal/bytealg.IndexString"], unfollowed := true, recurses := true, named := ["unicode/utf8.first", "unicode/utf8.acceptRanges", "internal/bytealg.MaxLen"], apart := false, laid := [("unicode/utf8.acceptRanges", laid_unicode_utf8_acceptRanges), ("unicode/utf8.first", laid_unicode_utf8_first)] }
def FreshnessDecidesSaid : Prop := freshnessDecidesRow.holds Tryd.pinned (OpenSpec.ofChange freshnessDecidesSpec)

/-- ITS FALSE NEIGHBOUR: 'it returns false'. Refute it at one input. -/
def freshnessDecidesWrong : ChangeSpec := { name := "freshnessDecides", fn := fun _ => fun
  | [d1, d2, d3, d4] => { results := [.lit (.bool false)], args := [d1, d2, d3, d4] }
  | _ => none }
def FreshnessDecidesWrongFalsely : Prop := freshnessDecidesRow.holds Tryd.pinned (OpenSpec.ofChange freshnessDecidesWrong)

/-- 'variantproxylaw23.FreshnessGrows': WHATEVER THE INPUT: true; the input reads as it did. -/
def freshnessGrowsSpec : ChangeSpec := { name := "freshnessGrows", fn := fun _ => fun
  | [d1, d2, d3, d4, d5] => { results := [.lit (.bool true)], args := [d1, d2, d3, d4, d5] }
  | _ => none }
def freshnessGrowsRow : OpenClaim := { program := "ytdijehmmnpofjaadoor", sum := "dffcfb3b18c8ec6601adef94142731aa92dbb54a5e212756ab90dfe8d30be055", func := "variantproxy/variantproxylaw23.FreshnessGrows", spec := "freshnessGrows", inPlace := ["internal/bytealg.IndexByteString", "internal/bytealg.IndexString"], unfollowed := true, recurses := true, named := ["unicode/utf8.first", "unicode/utf8.acceptRanges", "internal/bytealg.MaxLen"], apart := false, laid := [("unicode/utf8.acceptRanges", laid_unicode_utf8_acceptRanges), ("unicode/utf8.first", laid_unicode_utf8_first)] }
def FreshnessGrowsSaid : Prop := freshnessGrowsRow.holds Tryd.pinned (OpenSpec.ofChange freshnessGrowsSpec)

/-- ITS FALSE NEIGHBOUR: 'it returns false'. Refute it at one input. -/
def freshnessGrowsWrong : ChangeSpec := { name := "freshnessGrows", fn := fun _ => fun
  | [d1, d2, d3, d4, d5] => { results := [.lit (.bool false)], args := [d1, d2, d3, d4, d5] }
  | _ => none }
def FreshnessGrowsWrongFalsely : Prop := freshnessGrowsRow.holds Tryd.pinned (OpenSpec.ofChange freshnessGrowsWrong)

/-- 'variantproxylaw23.FreshnessFalls': WHATEVER THE INPUT: true; the input reads as it did. -/
def freshnessFallsSpec : ChangeSpec := { name := "freshnessFalls", fn := fun _ => fun
  | [d1, d2, d3, d4, d5] => { results := [.lit (.bool true)], args := [d1, d2, d3, d4, d5] }
  | _ => none }
def freshnessFallsRow : OpenClaim := { program := "ytdijehmmnpofjaadoor", sum := "dffcfb3b18c8ec6601adef94142731aa92dbb54a5e212756ab90dfe8d30be055", func := "variantproxy/variantproxylaw23.FreshnessFalls", spec := "freshnessFalls", inPlace := ["internal/bytealg.IndexByteString", "internal/bytealg.IndexString"], unfollowed := true, recurses := true, named := ["unicode/utf8.first", "unicode/utf8.acceptRanges", "internal/bytealg.MaxLen"], apart := false, laid := [("unicode/utf8.acceptRanges", laid_unicode_utf8_acceptRanges), ("unicode/utf8.first", laid_unicode_utf8_first)] }
def FreshnessFallsSaid : Prop := freshnessFallsRow.holds Tryd.pinned (OpenSpec.ofChange freshnessFallsSpec)

/-- ITS FALSE NEIGHBOUR: 'it returns false'. Refute it at one input. -/
def freshnessFallsWrong : ChangeSpec := { name := "freshnessFalls", fn := fun _ => fun
  | [d1, d2, d3, d4, d5] => { results := [.lit (.bool false)], args := [d1, d2, d3, d4, d5] }
  | _ => none }
def FreshnessFallsWrongFalsely : Prop := freshnessFallsRow.holds Tryd.pinned (OpenSpec.ofChange freshnessFallsWrong)

/-- 'variantproxylaw23.FreshnessStrict': WHATEVER THE INPUT: true; the input reads as it did. -/
def freshnessStrictSpec : ChangeSpec := { name := "freshnessStrict", fn := fun _ => fun
  | [d1, d2, d3, d4] => { results := [.lit (.bool true)], args := [d1, d2, d3, d4] }
  | _ => none }
def freshnessStrictRow : OpenClaim := { program := "ytdijehmmnpofjaadoor", sum := "dffcfb3b18c8ec6601adef94142731aa92dbb54a5e212756ab90dfe8d30be055", func := "variantproxy/variantproxylaw23.FreshnessStrict", spec := "freshnessStrict", inPlace := ["internal/bytealg.IndexByteString", "internal/bytealg.IndexString"], unfollowed := true, recurses := true, named := ["unicode/utf8.first", "unicode/utf8.acceptRanges", "internal/bytealg.MaxLen"], apart := false, laid := [("unicode/utf8.acceptRanges", laid_unicode_utf8_acceptRanges), ("unicode/utf8.first", laid_unicode_utf8_first)] }
def FreshnessStrictSaid : Prop := freshnessStrictRow.holds Tryd.pinned (OpenSpec.ofChange freshnessStrictSpec)

/-- ITS FALSE NEIGHBOUR: 'it returns false'. Refute it at one input. -/
def freshnessStrictWrong : ChangeSpec := { name := "freshnessStrict", fn := fun _ => fun
  | [d1, d2, d3, d4] => { results := [.lit (.bool false)], args := [d1, d2, d3, d4] }
  | _ => none }
def FreshnessStrictWrongFalsely : Prop := freshnessStrictRow.holds Tryd.pinned (OpenSpec.ofChange freshnessStrictWrong)

/- THE SECOND FORM. 'bulk': how many values and letters a reading holds, each counted each time it is reached (what is shared counts as often as it is met; a slice's spare places count too). A statement '..UptoSaid' is the law's where the arguments, and the package variables that the reading takes, are together of bulk at most 1048576: NARROWER than '..Said'. Prove '..Said' where nothing that the law and all that it calls make is longer than what came in: it says more and counts as full. Else prove '..UptoSaid'. A law counts once. -/
mutual
def uptoBulk {H : Type} : DataW H → Nat
  | .lit (.string bytes) => bytes.length + 1
  | .lit _ => 1
  | .nil => 1
  | .ptr d => uptoBulk d + 1
  | .slice elems spare => uptoBulkAll elems + uptoBulkAll spare + 1
  | .agg parts => uptoBulkAll parts + 1
  | .iface _ d => uptoBulk d + 1
  | .map entries => uptoBulkEntries entries + 1
  | .held _ => 1
def uptoBulkAll {H : Type} : List (DataW H) → Nat
  | [] => 0
  | d :: r => uptoBulk d + uptoBulkAll r
def uptoBulkEntries {H : Type} : List (Lit × DataW H) → Nat
  | [] => 0
  | x :: r => uptoBulkEntry x + uptoBulkEntries r
def uptoBulkEntry {H : Type} : Lit × DataW H → Nat
  | (.string bytes, d) => bytes.length + uptoBulk d + 1
  | (_, d) => uptoBulk d + 1
 end
def uptoSmall : (H : Type) → List (DataW H) → Bool := fun _ ds => decide (uptoBulkAll ds ≤ 1048576)
def OpenSpec.upto (s : _root_.Go.ChangeSpec) : _root_.Go.OpenSpec := { _root_.Go.OpenSpec.ofChange s with cond := some uptoSmall }

/-- 'variantproxylaw22.CachecontrolFirst', WHERE WHAT IT READS IS OF BULK AT MOST 1048576: true; the input reads as it did. -/
def cachecontrolFirstUptoRow : OpenClaim := { program := "ytdijehmmnpofjaadoor", sum := "dffcfb3b18c8ec6601adef94142731aa92dbb54a5e212756ab90dfe8d30be055", func := "variantproxy/variantproxylaw22.CachecontrolFirst", spec := "cachecontrolFirst", inPlace := ["internal/bytealg.IndexByteString", "internal/bytealg.IndexString"], unfollowed := true, recurses := true, named := ["unicode/utf8.first", "unicode/utf8.acceptRanges", "internal/bytealg.MaxLen"], apart := false, laid := [("unicode/utf8.acceptRanges", laid_unicode_utf8_acceptRanges), ("unicode/utf8.first", laid_unicode_utf8_first)], narrowed := true }
def CachecontrolFirstUptoSaid : Prop := cachecontrolFirstUptoRow.holds Tryd.pinned (OpenSpec.upto cachecontrolFirstSpec)

/-- 'variantproxylaw22.CachecontrolForms', WHERE WHAT IT READS IS OF BULK AT MOST 1048576: true; the input reads as it did. -/
def cachecontrolFormsUptoRow : OpenClaim := { program := "ytdijehmmnpofjaadoor", sum := "dffcfb3b18c8ec6601adef94142731aa92dbb54a5e212756ab90dfe8d30be055", func := "variantproxy/variantproxylaw22.CachecontrolForms", spec := "cachecontrolForms", inPlace := ["internal/bytealg.IndexByteString", "internal/bytealg.IndexString"], unfollowed := true, recurses := true, named := ["unicode/utf8.first", "unicode/utf8.acceptRanges", "internal/bytealg.MaxLen"], apart := false, laid := [("unicode/utf8.acceptRanges", laid_unicode_utf8_acceptRanges), ("unicode/utf8.first", laid_unicode_utf8_first)], narrowed := true }
def CachecontrolFormsUptoSaid : Prop := cachecontrolFormsUptoRow.holds Tryd.pinned (OpenSpec.upto cachecontrolFormsSpec)

/-- 'variantproxylaw22.CachecontrolReads', WHERE WHAT IT READS IS OF BULK AT MOST 1048576: true; the input reads as it did. -/
def cachecontrolReadsUptoRow : OpenClaim := { program := "ytdijehmmnpofjaadoor", sum := "dffcfb3b18c8ec6601adef94142731aa92dbb54a5e212756ab90dfe8d30be055", func := "variantproxy/variantproxylaw22.CachecontrolReads", spec := "cachecontrolReads", inPlace := ["internal/bytealg.IndexByteString", "internal/bytealg.IndexString"], unfollowed := true, recurses := true, named := ["unicode/utf8.first", "unicode/utf8.acceptRanges", "internal/bytealg.MaxLen"], apart := false, laid := [("unicode/utf8.acceptRanges", laid_unicode_utf8_acceptRanges), ("unicode/utf8.first", laid_unicode_utf8_first)], narrowed := true }
def CachecontrolReadsUptoSaid : Prop := cachecontrolReadsUptoRow.holds Tryd.pinned (OpenSpec.upto cachecontrolReadsSpec)

/-- 'variantproxylaw22.CachecontrolOverflow', WHERE WHAT IT READS IS OF BULK AT MOST 1048576: true; the input reads as it did. -/
def cachecontrolOverflowUptoRow : OpenClaim := { program := "ytdijehmmnpofjaadoor", sum := "dffcfb3b18c8ec6601adef94142731aa92dbb54a5e212756ab90dfe8d30be055", func := "variantproxy/variantproxylaw22.CachecontrolOverflow", spec := "cachecontrolOverflow", inPlace := ["internal/bytealg.IndexByteString", "internal/bytealg.IndexString"], unfollowed := true, recurses := true, named := ["unicode/utf8.first", "unicode/utf8.acceptRanges", "internal/bytealg.MaxLen"], apart := false, laid := [("unicode/utf8.acceptRanges", laid_unicode_utf8_acceptRanges), ("unicode/utf8.first", laid_unicode_utf8_first)], narrowed := true }
def CachecontrolOverflowUptoSaid : Prop := cachecontrolOverflowUptoRow.holds Tryd.pinned (OpenSpec.upto cachecontrolOverflowSpec)

/-- 'variantproxylaw22.CachecontrolPragma', WHERE WHAT IT READS IS OF BULK AT MOST 1048576: true; the input reads as it did. -/
def cachecontrolPragmaUptoRow : OpenClaim := { program := "ytdijehmmnpofjaadoor", sum := "dffcfb3b18c8ec6601adef94142731aa92dbb54a5e212756ab90dfe8d30be055", func := "variantproxy/variantproxylaw22.CachecontrolPragma", spec := "cachecontrolPragma", inPlace := ["internal/bytealg.IndexByteString", "internal/bytealg.IndexString"], unfollowed := true, recurses := true, named := ["unicode/utf8.first", "unicode/utf8.acceptRanges", "internal/bytealg.MaxLen"], apart := false, laid := [("unicode/utf8.acceptRanges", laid_unicode_utf8_acceptRanges), ("unicode/utf8.first", laid_unicode_utf8_first)], narrowed := true }
def CachecontrolPragmaUptoSaid : Prop := cachecontrolPragmaUptoRow.holds Tryd.pinned (OpenSpec.upto cachecontrolPragmaSpec)

/-- 'variantproxylaw23.FreshnessLifetimes', WHERE WHAT IT READS IS OF BULK AT MOST 1048576: true; the input reads as it did. -/
def freshnessLifetimesUptoRow : OpenClaim := { program := "ytdijehmmnpofjaadoor", sum := "dffcfb3b18c8ec6601adef94142731aa92dbb54a5e212756ab90dfe8d30be055", func := "variantproxy/variantproxylaw23.FreshnessLifetimes", spec := "freshnessLifetimes", inPlace := ["internal/bytealg.IndexByteString", "internal/bytealg.IndexString"], unfollowed := true, recurses := true, named := ["unicode/utf8.first", "unicode/utf8.acceptRanges", "internal/bytealg.MaxLen"], apart := false, laid := [("unicode/utf8.acceptRanges", laid_unicode_utf8_acceptRanges), ("unicode/utf8.first", laid_unicode_utf8_first)], narrowed := true }
def FreshnessLifetimesUptoSaid : Prop := freshnessLifetimesUptoRow.holds Tryd.pinned (OpenSpec.upto freshnessLifetimesSpec)

/-- 'variantproxylaw23.FreshnessAges', WHERE WHAT IT READS IS OF BULK AT MOST 1048576: true; the input reads as it did. -/
def freshnessAgesUptoRow : OpenClaim := { program := "ytdijehmmnpofjaadoor", sum := "dffcfb3b18c8ec6601adef94142731aa92dbb54a5e212756ab90dfe8d30be055", func := "variantproxy/variantproxylaw23.FreshnessAges", spec := "freshnessAges", inPlace := ["internal/bytealg.IndexByteString", "internal/bytealg.IndexString"], unfollowed := true, recurses := true, named := ["unicode/utf8.first", "unicode/utf8.acceptRanges", "internal/bytealg.MaxLen"], apart := false, laid := [("unicode/utf8.acceptRanges", laid_unicode_utf8_acceptRanges), ("unicode/utf8.first", laid_unicode_utf8_first)], narrowed := true }
def FreshnessAgesUptoSaid : Prop := freshnessAgesUptoRow.holds Tryd.pinned (OpenSpec.upto freshnessAgesSpec)

/-- 'variantproxylaw23.FreshnessDecides', WHERE WHAT IT READS IS OF BULK AT MOST 1048576: true; the input reads as it did. -/
def freshnessDecidesUptoRow : OpenClaim := { program := "ytdijehmmnpofjaadoor", sum := "dffcfb3b18c8ec6601adef94142731aa92dbb54a5e212756ab90dfe8d30be055", func := "variantproxy/variantproxylaw23.FreshnessDecides", spec := "freshnessDecides", inPlace := ["internal/bytealg.IndexByteString", "internal/bytealg.IndexString"], unfollowed := true, recurses := true, named := ["unicode/utf8.first", "unicode/utf8.acceptRanges", "internal/bytealg.MaxLen"], apart := false, laid := [("unicode/utf8.acceptRanges", laid_unicode_utf8_acceptRanges), ("unicode/utf8.first", laid_unicode_utf8_first)], narrowed := true }
def FreshnessDecidesUptoSaid : Prop := freshnessDecidesUptoRow.holds Tryd.pinned (OpenSpec.upto freshnessDecidesSpec)

/-- 'variantproxylaw23.FreshnessGrows', WHERE WHAT IT READS IS OF BULK AT MOST 1048576: true; the input reads as it did. -/
def freshnessGrowsUptoRow : OpenClaim := { program := "ytdijehmmnpofjaadoor", sum := "dffcfb3b18c8ec6601adef94142731aa92dbb54a5e212756ab90dfe8d30be055", func := "variantproxy/variantproxylaw23.FreshnessGrows", spec := "freshnessGrows", inPlace := ["internal/bytealg.IndexByteString", "internal/bytealg.IndexString"], unfollowed := true, recurses := true, named := ["unicode/utf8.first", "unicode/utf8.acceptRanges", "internal/bytealg.MaxLen"], apart := false, laid := [("unicode/utf8.acceptRanges", laid_unicode_utf8_acceptRanges), ("unicode/utf8.first", laid_unicode_utf8_first)], narrowed := true }
def FreshnessGrowsUptoSaid : Prop := freshnessGrowsUptoRow.holds Tryd.pinned (OpenSpec.upto freshnessGrowsSpec)

/-- 'variantproxylaw23.FreshnessFalls', WHERE WHAT IT READS IS OF BULK AT MOST 1048576: true; the input reads as it did. -/
def freshnessFallsUptoRow : OpenClaim := { program := "ytdijehmmnpofjaadoor", sum := "dffcfb3b18c8ec6601adef94142731aa92dbb54a5e212756ab90dfe8d30be055", func := "variantproxy/variantproxylaw23.FreshnessFalls", spec := "freshnessFalls", inPlace := ["internal/bytealg.IndexByteString", "internal/bytealg.IndexString"], unfollowed := true, recurses := true, named := ["unicode/utf8.first", "unicode/utf8.acceptRanges", "internal/bytealg.MaxLen"], apart := false, laid := [("unicode/utf8.acceptRanges", laid_unicode_utf8_acceptRanges), ("unicode/utf8.first", laid_unicode_utf8_first)], narrowed := true }
def FreshnessFallsUptoSaid : Prop := freshnessFallsUptoRow.holds Tryd.pinned (OpenSpec.upto freshnessFallsSpec)

/-- 'variantproxylaw23.FreshnessStrict', WHERE WHAT IT READS IS OF BULK AT MOST 1048576: true; the input reads as it did. -/
def freshnessStrictUptoRow : OpenClaim := { program := "ytdijehmmnpofjaadoor", sum := "dffcfb3b18c8ec6601adef94142731aa92dbb54a5e212756ab90dfe8d30be055", func := "variantproxy/variantproxylaw23.FreshnessStrict", spec := "freshnessStrict", inPlace := ["internal/bytealg.IndexByteString", "internal/bytealg.IndexString"], unfollowed := true, recurses := true, named := ["unicode/utf8.first", "unicode/utf8.acceptRanges", "internal/bytealg.MaxLen"], apart := false, laid := [("unicode/utf8.acceptRanges", laid_unicode_utf8_acceptRanges), ("unicode/utf8.first", laid_unicode_utf8_first)], narrowed := true }
def FreshnessStrictUptoSaid : Prop := freshnessStrictUptoRow.holds Tryd.pinned (OpenSpec.upto freshnessStrictSpec)

end Rows
end Go.Proofs.YtdijehmmnpofjaaDoor
