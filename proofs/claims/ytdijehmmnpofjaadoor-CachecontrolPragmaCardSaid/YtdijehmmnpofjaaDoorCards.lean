/-
  DERIVED. GIVEN WITH THE SEED: THE CARDS: each row of YtdijehmmnpofjaaDoorRows.lean that lists a variable, with what it lists TIED to the program's text (the seventh form; the later family's looks); each row that meets fmt, with fmt's text TOLD by the authors' own Lean function (tested against real Go, not proved from fmt's source: count such statements apart). THE CARD IS WHAT COUNTS. Prove the row's statement (the work); the ties are given (YtdijehmmnpofjaaDoorTie.lean); close each card by the builder's one call (the guide's Derived/Test/ToyasCard.lean, 'card_holds'). Laid BY PROGRAM, IN A SANDBOX (cutbox-door.mjs). By AI agents, Wed Nov 11 2026. No macro, syntax, notation, axiom, sorry.
-/
import Derived.Test.YtdijehmmnpofjaaDoorRows
import GoSem.ClaimSeven
namespace Go.Proofs.YtdijehmmnpofjaaDoor
namespace Rows

/-- THE TIED CARD OF 'variantproxylaw22.CachecontrolFirst'. -/
def cachecontrolFirstCard : Claim7 := { stood := { row := cachecontrolFirstRow, standIns := [], harness := (true, "2022d1fe85658482ae433e549cf3561b43d2986a85ece0cb74baf3c4c875e880"), looks := false }, kinds := [], alts := [], laidByText := true, laidKinds := [.data, .pinned], laidTests := true, laidLooks := .later }
def CachecontrolFirstCardSaid : Prop := Claim7.holds Tryd.pinned (.plain (OpenSpec.ofChange cachecontrolFirstSpec)) cachecontrolFirstCard

/-- THE TIED CARD OF 'variantproxylaw22.CachecontrolForms'. -/
def cachecontrolFormsCard : Claim7 := { stood := { row := cachecontrolFormsRow, standIns := [], harness := (true, "2022d1fe85658482ae433e549cf3561b43d2986a85ece0cb74baf3c4c875e880"), looks := false }, kinds := [], alts := [], laidByText := true, laidKinds := [.data, .pinned], laidTests := true, laidLooks := .later }
def CachecontrolFormsCardSaid : Prop := Claim7.holds Tryd.pinned (.plain (OpenSpec.ofChange cachecontrolFormsSpec)) cachecontrolFormsCard

/-- THE TIED CARD OF 'variantproxylaw22.CachecontrolReads'. -/
def cachecontrolReadsCard : Claim7 := { stood := { row := cachecontrolReadsRow, standIns := [], harness := (true, "2022d1fe85658482ae433e549cf3561b43d2986a85ece0cb74baf3c4c875e880"), looks := false }, kinds := [], alts := [], laidByText := true, laidKinds := [.data, .pinned], laidTests := true, laidLooks := .later }
def CachecontrolReadsCardSaid : Prop := Claim7.holds Tryd.pinned (.plain (OpenSpec.ofChange cachecontrolReadsSpec)) cachecontrolReadsCard

/-- THE TIED CARD OF 'variantproxylaw22.CachecontrolOverflow'. -/
def cachecontrolOverflowCard : Claim7 := { stood := { row := cachecontrolOverflowRow, standIns := [], harness := (true, "2022d1fe85658482ae433e549cf3561b43d2986a85ece0cb74baf3c4c875e880"), looks := false }, kinds := [], alts := [], laidByText := true, laidKinds := [.data, .pinned], laidTests := true, laidLooks := .later }
def CachecontrolOverflowCardSaid : Prop := Claim7.holds Tryd.pinned (.plain (OpenSpec.ofChange cachecontrolOverflowSpec)) cachecontrolOverflowCard

/-- THE TIED CARD OF 'variantproxylaw22.CachecontrolPragma'. -/
def cachecontrolPragmaCard : Claim7 := { stood := { row := cachecontrolPragmaRow, standIns := [], harness := (true, "2022d1fe85658482ae433e549cf3561b43d2986a85ece0cb74baf3c4c875e880"), looks := false }, kinds := [], alts := [], laidByText := true, laidKinds := [.data, .pinned], laidTests := true, laidLooks := .later }
def CachecontrolPragmaCardSaid : Prop := Claim7.holds Tryd.pinned (.plain (OpenSpec.ofChange cachecontrolPragmaSpec)) cachecontrolPragmaCard

/-- THE TIED CARD OF 'variantproxylaw23.FreshnessLifetimes'. -/
def freshnessLifetimesCard : Claim7 := { stood := { row := freshnessLifetimesRow, standIns := [], harness := (true, "2022d1fe85658482ae433e549cf3561b43d2986a85ece0cb74baf3c4c875e880"), looks := false }, kinds := [], alts := [], laidByText := true, laidKinds := [.data, .pinned], laidTests := true, laidLooks := .later }
def FreshnessLifetimesCardSaid : Prop := Claim7.holds Tryd.pinned (.plain (OpenSpec.ofChange freshnessLifetimesSpec)) freshnessLifetimesCard

/-- THE TIED CARD OF 'variantproxylaw23.FreshnessAges'. -/
def freshnessAgesCard : Claim7 := { stood := { row := freshnessAgesRow, standIns := [], harness := (true, "2022d1fe85658482ae433e549cf3561b43d2986a85ece0cb74baf3c4c875e880"), looks := false }, kinds := [], alts := [], laidByText := true, laidKinds := [.data, .pinned], laidTests := true, laidLooks := .later }
def FreshnessAgesCardSaid : Prop := Claim7.holds Tryd.pinned (.plain (OpenSpec.ofChange freshnessAgesSpec)) freshnessAgesCard

/-- THE TIED CARD OF 'variantproxylaw23.FreshnessDecides'. -/
def freshnessDecidesCard : Claim7 := { stood := { row := freshnessDecidesRow, standIns := [], harness := (true, "2022d1fe85658482ae433e549cf3561b43d2986a85ece0cb74baf3c4c875e880"), looks := false }, kinds := [], alts := [], laidByText := true, laidKinds := [.data, .pinned], laidTests := true, laidLooks := .later }
def FreshnessDecidesCardSaid : Prop := Claim7.holds Tryd.pinned (.plain (OpenSpec.ofChange freshnessDecidesSpec)) freshnessDecidesCard

/-- THE TIED CARD OF 'variantproxylaw23.FreshnessGrows'. -/
def freshnessGrowsCard : Claim7 := { stood := { row := freshnessGrowsRow, standIns := [], harness := (true, "2022d1fe85658482ae433e549cf3561b43d2986a85ece0cb74baf3c4c875e880"), looks := false }, kinds := [], alts := [], laidByText := true, laidKinds := [.data, .pinned], laidTests := true, laidLooks := .later }
def FreshnessGrowsCardSaid : Prop := Claim7.holds Tryd.pinned (.plain (OpenSpec.ofChange freshnessGrowsSpec)) freshnessGrowsCard

/-- THE TIED CARD OF 'variantproxylaw23.FreshnessFalls'. -/
def freshnessFallsCard : Claim7 := { stood := { row := freshnessFallsRow, standIns := [], harness := (true, "2022d1fe85658482ae433e549cf3561b43d2986a85ece0cb74baf3c4c875e880"), looks := false }, kinds := [], alts := [], laidByText := true, laidKinds := [.data, .pinned], laidTests := true, laidLooks := .later }
def FreshnessFallsCardSaid : Prop := Claim7.holds Tryd.pinned (.plain (OpenSpec.ofChange freshnessFallsSpec)) freshnessFallsCard

/-- THE TIED CARD OF 'variantproxylaw23.FreshnessStrict'. -/
def freshnessStrictCard : Claim7 := { stood := { row := freshnessStrictRow, standIns := [], harness := (true, "2022d1fe85658482ae433e549cf3561b43d2986a85ece0cb74baf3c4c875e880"), looks := false }, kinds := [], alts := [], laidByText := true, laidKinds := [.data, .pinned], laidTests := true, laidLooks := .later }
def FreshnessStrictCardSaid : Prop := Claim7.holds Tryd.pinned (.plain (OpenSpec.ofChange freshnessStrictSpec)) freshnessStrictCard

/-- THE SECOND FORM's CARD OF 'variantproxylaw22.CachecontrolFirst'. -/
def cachecontrolFirstUptoCard : Claim7 := { stood := { row := cachecontrolFirstUptoRow, standIns := [], harness := (true, "2022d1fe85658482ae433e549cf3561b43d2986a85ece0cb74baf3c4c875e880"), looks := false }, kinds := [], alts := [], laidByText := true, laidKinds := [.data, .pinned], laidTests := true, laidLooks := .later }
def CachecontrolFirstUptoCardSaid : Prop := Claim7.holds Tryd.pinned (.plain (OpenSpec.upto cachecontrolFirstSpec)) cachecontrolFirstUptoCard

/-- THE SECOND FORM's CARD OF 'variantproxylaw22.CachecontrolForms'. -/
def cachecontrolFormsUptoCard : Claim7 := { stood := { row := cachecontrolFormsUptoRow, standIns := [], harness := (true, "2022d1fe85658482ae433e549cf3561b43d2986a85ece0cb74baf3c4c875e880"), looks := false }, kinds := [], alts := [], laidByText := true, laidKinds := [.data, .pinned], laidTests := true, laidLooks := .later }
def CachecontrolFormsUptoCardSaid : Prop := Claim7.holds Tryd.pinned (.plain (OpenSpec.upto cachecontrolFormsSpec)) cachecontrolFormsUptoCard

/-- THE SECOND FORM's CARD OF 'variantproxylaw22.CachecontrolReads'. -/
def cachecontrolReadsUptoCard : Claim7 := { stood := { row := cachecontrolReadsUptoRow, standIns := [], harness := (true, "2022d1fe85658482ae433e549cf3561b43d2986a85ece0cb74baf3c4c875e880"), looks := false }, kinds := [], alts := [], laidByText := true, laidKinds := [.data, .pinned], laidTests := true, laidLooks := .later }
def CachecontrolReadsUptoCardSaid : Prop := Claim7.holds Tryd.pinned (.plain (OpenSpec.upto cachecontrolReadsSpec)) cachecontrolReadsUptoCard

/-- THE SECOND FORM's CARD OF 'variantproxylaw22.CachecontrolOverflow'. -/
def cachecontrolOverflowUptoCard : Claim7 := { stood := { row := cachecontrolOverflowUptoRow, standIns := [], harness := (true, "2022d1fe85658482ae433e549cf3561b43d2986a85ece0cb74baf3c4c875e880"), looks := false }, kinds := [], alts := [], laidByText := true, laidKinds := [.data, .pinned], laidTests := true, laidLooks := .later }
def CachecontrolOverflowUptoCardSaid : Prop := Claim7.holds Tryd.pinned (.plain (OpenSpec.upto cachecontrolOverflowSpec)) cachecontrolOverflowUptoCard

/-- THE SECOND FORM's CARD OF 'variantproxylaw22.CachecontrolPragma'. -/
def cachecontrolPragmaUptoCard : Claim7 := { stood := { row := cachecontrolPragmaUptoRow, standIns := [], harness := (true, "2022d1fe85658482ae433e549cf3561b43d2986a85ece0cb74baf3c4c875e880"), looks := false }, kinds := [], alts := [], laidByText := true, laidKinds := [.data, .pinned], laidTests := true, laidLooks := .later }
def CachecontrolPragmaUptoCardSaid : Prop := Claim7.holds Tryd.pinned (.plain (OpenSpec.upto cachecontrolPragmaSpec)) cachecontrolPragmaUptoCard

/-- THE SECOND FORM's CARD OF 'variantproxylaw23.FreshnessLifetimes'. -/
def freshnessLifetimesUptoCard : Claim7 := { stood := { row := freshnessLifetimesUptoRow, standIns := [], harness := (true, "2022d1fe85658482ae433e549cf3561b43d2986a85ece0cb74baf3c4c875e880"), looks := false }, kinds := [], alts := [], laidByText := true, laidKinds := [.data, .pinned], laidTests := true, laidLooks := .later }
def FreshnessLifetimesUptoCardSaid : Prop := Claim7.holds Tryd.pinned (.plain (OpenSpec.upto freshnessLifetimesSpec)) freshnessLifetimesUptoCard

/-- THE SECOND FORM's CARD OF 'variantproxylaw23.FreshnessAges'. -/
def freshnessAgesUptoCard : Claim7 := { stood := { row := freshnessAgesUptoRow, standIns := [], harness := (true, "2022d1fe85658482ae433e549cf3561b43d2986a85ece0cb74baf3c4c875e880"), looks := false }, kinds := [], alts := [], laidByText := true, laidKinds := [.data, .pinned], laidTests := true, laidLooks := .later }
def FreshnessAgesUptoCardSaid : Prop := Claim7.holds Tryd.pinned (.plain (OpenSpec.upto freshnessAgesSpec)) freshnessAgesUptoCard

/-- THE SECOND FORM's CARD OF 'variantproxylaw23.FreshnessDecides'. -/
def freshnessDecidesUptoCard : Claim7 := { stood := { row := freshnessDecidesUptoRow, standIns := [], harness := (true, "2022d1fe85658482ae433e549cf3561b43d2986a85ece0cb74baf3c4c875e880"), looks := false }, kinds := [], alts := [], laidByText := true, laidKinds := [.data, .pinned], laidTests := true, laidLooks := .later }
def FreshnessDecidesUptoCardSaid : Prop := Claim7.holds Tryd.pinned (.plain (OpenSpec.upto freshnessDecidesSpec)) freshnessDecidesUptoCard

/-- THE SECOND FORM's CARD OF 'variantproxylaw23.FreshnessGrows'. -/
def freshnessGrowsUptoCard : Claim7 := { stood := { row := freshnessGrowsUptoRow, standIns := [], harness := (true, "2022d1fe85658482ae433e549cf3561b43d2986a85ece0cb74baf3c4c875e880"), looks := false }, kinds := [], alts := [], laidByText := true, laidKinds := [.data, .pinned], laidTests := true, laidLooks := .later }
def FreshnessGrowsUptoCardSaid : Prop := Claim7.holds Tryd.pinned (.plain (OpenSpec.upto freshnessGrowsSpec)) freshnessGrowsUptoCard

/-- THE SECOND FORM's CARD OF 'variantproxylaw23.FreshnessFalls'. -/
def freshnessFallsUptoCard : Claim7 := { stood := { row := freshnessFallsUptoRow, standIns := [], harness := (true, "2022d1fe85658482ae433e549cf3561b43d2986a85ece0cb74baf3c4c875e880"), looks := false }, kinds := [], alts := [], laidByText := true, laidKinds := [.data, .pinned], laidTests := true, laidLooks := .later }
def FreshnessFallsUptoCardSaid : Prop := Claim7.holds Tryd.pinned (.plain (OpenSpec.upto freshnessFallsSpec)) freshnessFallsUptoCard

/-- THE SECOND FORM's CARD OF 'variantproxylaw23.FreshnessStrict'. -/
def freshnessStrictUptoCard : Claim7 := { stood := { row := freshnessStrictUptoRow, standIns := [], harness := (true, "2022d1fe85658482ae433e549cf3561b43d2986a85ece0cb74baf3c4c875e880"), looks := false }, kinds := [], alts := [], laidByText := true, laidKinds := [.data, .pinned], laidTests := true, laidLooks := .later }
def FreshnessStrictUptoCardSaid : Prop := Claim7.holds Tryd.pinned (.plain (OpenSpec.upto freshnessStrictSpec)) freshnessStrictUptoCard
end Rows
end Go.Proofs.YtdijehmmnpofjaaDoor
