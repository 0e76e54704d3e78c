/-
  No cell of these rows narrows 'for every input' (looked for: loops, veiled, ifaces, maps, wideKeys, modest, calm, conditions, laid).
  DERIVED. THE GIVEN ROWS OF THIS SEAT. 3 by the template 'for every input the law returns true; each argument reads behind the call as it read before'; 0 by the template 'total and deterministic' (their statements: YtggmjoffcdnplaaTotals.lean).
  GIVEN WITH THE SEED: the statements are not yours to turn. If you find one false, say at which input.
  Laid BY PROGRAM, IN A SANDBOX (cutbox-rows.mjs): the forced cells as the released guide's own fill.sh prints them over the translation 635c40e637114785… (all of the seat's roots in one cut). By AI agents, Wed Nov 11 2026. No macro, syntax, notation, axiom, sorry.
-/
import Derived.Test.YtggmjoffcdnplaaChecked
import GoSem.Claim
import GoSem.ClaimJoined
import GoSem.ClaimMapViews
import Derived.JoinedTies
import Derived.KernelRfl
namespace Go.Proofs.Ytggmjoffcdnplaa
/- THE CELL 'sum', in the pinned program and in every row, IS THE sha256 OF THE DUMP (.gsa) THAT YtggmjoffcdnplaaProg.lean LOADS. Nothing in Lean hashes anything: it is a label: what it is worth is what the hold of that sum in a sandbox is worth. -/
noncomputable def Try.pinned : Pinned := { name := "ytggmjoffcdnplaa", sum := "635c40e63711478583f187e69315264182f8fb4fc520f1695490175d480e235e", checked := Try.checked }
namespace Rows
def none {H : Type} : Left H := { results := [], args := [] }

/-- 'variantproxylaw21.EtagCompares': WHATEVER THE INPUT: true; the input reads as it did. -/
def etagComparesSpec : ChangeSpec := { name := "etagCompares", fn := fun _ => fun
  | [d1, d2] => { results := [.lit (.bool true)], args := [d1, d2] }
  | _ => none }
def etagComparesRow : OpenClaim := { program := "ytggmjoffcdnplaa", sum := "635c40e63711478583f187e69315264182f8fb4fc520f1695490175d480e235e", func := "variantproxy/variantproxylaw21.EtagCompares", spec := "etagCompares", unfollowed := true, recurses := true, apart := false }
def EtagComparesSaid : Prop := etagComparesRow.holds Try.pinned (OpenSpec.ofChange etagComparesSpec)

/-- ITS FALSE NEIGHBOUR: 'it returns false'. Refute it at one input. -/
def etagComparesWrong : ChangeSpec := { name := "etagCompares", fn := fun _ => fun
  | [d1, d2] => { results := [.lit (.bool false)], args := [d1, d2] }
  | _ => none }
def EtagComparesWrongFalsely : Prop := etagComparesRow.holds Try.pinned (OpenSpec.ofChange etagComparesWrong)

/-- 'variantproxylaw21.EtagParses': WHATEVER THE INPUT: true; the input reads as it did. -/
def etagParsesSpec : ChangeSpec := { name := "etagParses", fn := fun _ => fun
  | [d1, d2] => { results := [.lit (.bool true)], args := [d1, d2] }
  | _ => none }
def etagParsesRow : OpenClaim := { program := "ytggmjoffcdnplaa", sum := "635c40e63711478583f187e69315264182f8fb4fc520f1695490175d480e235e", func := "variantproxy/variantproxylaw21.EtagParses", spec := "etagParses", unfollowed := true, recurses := true, apart := false }
def EtagParsesSaid : Prop := etagParsesRow.holds Try.pinned (OpenSpec.ofChange etagParsesSpec)

/-- ITS FALSE NEIGHBOUR: 'it returns false'. Refute it at one input. -/
def etagParsesWrong : ChangeSpec := { name := "etagParses", fn := fun _ => fun
  | [d1, d2] => { results := [.lit (.bool false)], args := [d1, d2] }
  | _ => none }
def EtagParsesWrongFalsely : Prop := etagParsesRow.holds Try.pinned (OpenSpec.ofChange etagParsesWrong)

/-- 'variantproxylaw21.EtagBack': WHATEVER THE INPUT: true; the input reads as it did. -/
def etagBackSpec : ChangeSpec := { name := "etagBack", fn := fun _ => fun
  | [d1, d2] => { results := [.lit (.bool true)], args := [d1, d2] }
  | _ => none }
def etagBackRow : OpenClaim := { program := "ytggmjoffcdnplaa", sum := "635c40e63711478583f187e69315264182f8fb4fc520f1695490175d480e235e", func := "variantproxy/variantproxylaw21.EtagBack", spec := "etagBack", unfollowed := true, recurses := true, apart := false }
def EtagBackSaid : Prop := etagBackRow.holds Try.pinned (OpenSpec.ofChange etagBackSpec)

/-- ITS FALSE NEIGHBOUR: 'it returns false'. Refute it at one input. -/
def etagBackWrong : ChangeSpec := { name := "etagBack", fn := fun _ => fun
  | [d1, d2] => { results := [.lit (.bool false)], args := [d1, d2] }
  | _ => none }
def EtagBackWrongFalsely : Prop := etagBackRow.holds Try.pinned (OpenSpec.ofChange etagBackWrong)

/- THE SECOND FORM. 'bulk': how many values and letters a reading holds, each counted each time it is reached (what is shared counts as often as it is met; a slice's spare places count too). A statement '..UptoSaid' is the law's where the arguments, and the package variables that the reading takes, are together of bulk at most 1048576: NARROWER than '..Said'. Prove '..Said' where nothing that the law and all that it calls make is longer than what came in: it says more and counts as full. Else prove '..UptoSaid'. A law counts once. -/
mutual
def uptoBulk {H : Type} : DataW H → Nat
  | .lit (.string bytes) => bytes.length + 1
  | .lit _ => 1
  | .nil => 1
  | .ptr d => uptoBulk d + 1
  | .slice elems spare => uptoBulkAll elems + uptoBulkAll spare + 1
  | .agg parts => uptoBulkAll parts + 1
  | .iface _ d => uptoBulk d + 1
  | .map entries => uptoBulkEntries entries + 1
  | .held _ => 1
def uptoBulkAll {H : Type} : List (DataW H) → Nat
  | [] => 0
  | d :: r => uptoBulk d + uptoBulkAll r
def uptoBulkEntries {H : Type} : List (Lit × DataW H) → Nat
  | [] => 0
  | x :: r => uptoBulkEntry x + uptoBulkEntries r
def uptoBulkEntry {H : Type} : Lit × DataW H → Nat
  | (.string bytes, d) => bytes.length + uptoBulk d + 1
  | (_, d) => uptoBulk d + 1
 end
def uptoSmall : (H : Type) → List (DataW H) → Bool := fun _ ds => decide (uptoBulkAll ds ≤ 1048576)
def OpenSpec.upto (s : _root_.Go.ChangeSpec) : _root_.Go.OpenSpec := { _root_.Go.OpenSpec.ofChange s with cond := some uptoSmall }

/-- 'variantproxylaw21.EtagCompares', WHERE WHAT IT READS IS OF BULK AT MOST 1048576: true; the input reads as it did. -/
def etagComparesUptoRow : OpenClaim := { program := "ytggmjoffcdnplaa", sum := "635c40e63711478583f187e69315264182f8fb4fc520f1695490175d480e235e", func := "variantproxy/variantproxylaw21.EtagCompares", spec := "etagCompares", unfollowed := true, recurses := true, apart := false, narrowed := true }
def EtagComparesUptoSaid : Prop := etagComparesUptoRow.holds Try.pinned (OpenSpec.upto etagComparesSpec)

/-- 'variantproxylaw21.EtagParses', WHERE WHAT IT READS IS OF BULK AT MOST 1048576: true; the input reads as it did. -/
def etagParsesUptoRow : OpenClaim := { program := "ytggmjoffcdnplaa", sum := "635c40e63711478583f187e69315264182f8fb4fc520f1695490175d480e235e", func := "variantproxy/variantproxylaw21.EtagParses", spec := "etagParses", unfollowed := true, recurses := true, apart := false, narrowed := true }
def EtagParsesUptoSaid : Prop := etagParsesUptoRow.holds Try.pinned (OpenSpec.upto etagParsesSpec)

/-- 'variantproxylaw21.EtagBack', WHERE WHAT IT READS IS OF BULK AT MOST 1048576: true; the input reads as it did. -/
def etagBackUptoRow : OpenClaim := { program := "ytggmjoffcdnplaa", sum := "635c40e63711478583f187e69315264182f8fb4fc520f1695490175d480e235e", func := "variantproxy/variantproxylaw21.EtagBack", spec := "etagBack", unfollowed := true, recurses := true, apart := false, narrowed := true }
def EtagBackUptoSaid : Prop := etagBackUptoRow.holds Try.pinned (OpenSpec.upto etagBackSpec)

end Rows
end Go.Proofs.Ytggmjoffcdnplaa
