/-
  DERIVED. GIVEN WITH THE SEED: THE CARDS: each row of YtljjaiijlaeoeaaGreatDoorRows.lean that lists a variable, with what it lists TIED to the program's text (the seventh form; the later family's looks); each row that meets fmt, with fmt's text TOLD by the authors' own Lean function (tested against real Go, not proved from fmt's source: count such statements apart). THE CARD IS WHAT COUNTS. Prove the row's statement (the work); the ties are given (YtljjaiijlaeoeaaGreatDoorTie.lean); close each card by the builder's one call (the guide's Derived/Test/ToyasCard.lean, 'card_holds'). Laid BY PROGRAM, IN A SANDBOX (cutbox-door.mjs). By AI agents, Wed Nov 11 2026. No macro, syntax, notation, axiom, sorry.
-/
import Derived.Test.YtljjaiijlaeoeaaGreatDoorRows
import GoSem.ClaimSeven
namespace Go.Proofs.YtljjaiijlaeoeaaGreatDoor
namespace Rows

/-- THE TIED CARD OF 'variantproxylaw32.ProxyOwn'. -/
def proxyOwnCard : Claim7 := { stood := { row := proxyOwnRow, standIns := [], harness := (true, "87466b0a1b7c4f66cd60988cdd31235049a29804aa6415d31b94596ce352c457"), looks := true }, kinds := [], alts := [], laidByText := true, laidKinds := [.data, .data, .data, .data, .handle, .sentinel, .sentinel, .sentinel, .pinned], laidTests := true, laidLooks := .later }
def ProxyOwnCardSaid : Prop := Claim7.holds Tryz.pinned (.plain (OpenSpec.ofChange proxyOwnSpec)) proxyOwnCard

/-- THE TIED CARD OF 'variantproxylaw32.ProxyTicks'. -/
def proxyTicksCard : Claim7 := { stood := { row := proxyTicksRow, standIns := [], harness := (true, "87466b0a1b7c4f66cd60988cdd31235049a29804aa6415d31b94596ce352c457"), looks := true }, kinds := [], alts := [], laidByText := true, laidKinds := [.data, .data, .data, .data, .handle, .sentinel, .sentinel, .sentinel, .pinned], laidTests := true, laidLooks := .later }
def ProxyTicksCardSaid : Prop := Claim7.holds Tryz.pinned (.plain (OpenSpec.ofChange proxyTicksSpec)) proxyTicksCard

/-- THE TIED CARD OF 'variantproxylaw32.ProxyMakes'. -/
def proxyMakesCard : Claim7 := { stood := { row := proxyMakesRow, standIns := [], harness := (true, "87466b0a1b7c4f66cd60988cdd31235049a29804aa6415d31b94596ce352c457"), looks := true }, kinds := [], alts := [], laidByText := true, laidKinds := [.data, .data, .data, .data, .handle, .sentinel, .sentinel, .sentinel, .pinned], laidTests := true, laidLooks := .later }
def ProxyMakesCardSaid : Prop := Claim7.holds Tryz.pinned (.plain (OpenSpec.ofChange proxyMakesSpec)) proxyMakesCard

/-- THE TIED CARD OF 'variantproxylaw32.ProxyNil'. -/
def proxyNilCard : Claim7 := { stood := { row := proxyNilRow, standIns := [], harness := (true, "87466b0a1b7c4f66cd60988cdd31235049a29804aa6415d31b94596ce352c457"), looks := true }, kinds := [], alts := [], laidByText := true, laidKinds := [.data, .data, .data, .data, .handle, .sentinel, .sentinel, .sentinel, .pinned], laidTests := true, laidLooks := .later }
def ProxyNilCardSaid : Prop := Claim7.holds Tryz.pinned (.plain (OpenSpec.ofChange proxyNilSpec)) proxyNilCard

/-- THE SECOND FORM's CARD OF 'variantproxylaw32.ProxyOwn'. -/
def proxyOwnUptoCard : Claim7 := { stood := { row := proxyOwnUptoRow, standIns := [], harness := (true, "87466b0a1b7c4f66cd60988cdd31235049a29804aa6415d31b94596ce352c457"), looks := true }, kinds := [], alts := [], laidByText := true, laidKinds := [.data, .data, .data, .data, .handle, .sentinel, .sentinel, .sentinel, .pinned], laidTests := true, laidLooks := .later }
def ProxyOwnUptoCardSaid : Prop := Claim7.holds Tryz.pinned (.plain (OpenSpec.upto proxyOwnSpec)) proxyOwnUptoCard

/-- THE SECOND FORM's CARD OF 'variantproxylaw32.ProxyTicks'. -/
def proxyTicksUptoCard : Claim7 := { stood := { row := proxyTicksUptoRow, standIns := [], harness := (true, "87466b0a1b7c4f66cd60988cdd31235049a29804aa6415d31b94596ce352c457"), looks := true }, kinds := [], alts := [], laidByText := true, laidKinds := [.data, .data, .data, .data, .handle, .sentinel, .sentinel, .sentinel, .pinned], laidTests := true, laidLooks := .later }
def ProxyTicksUptoCardSaid : Prop := Claim7.holds Tryz.pinned (.plain (OpenSpec.upto proxyTicksSpec)) proxyTicksUptoCard

/-- THE SECOND FORM's CARD OF 'variantproxylaw32.ProxyMakes'. -/
def proxyMakesUptoCard : Claim7 := { stood := { row := proxyMakesUptoRow, standIns := [], harness := (true, "87466b0a1b7c4f66cd60988cdd31235049a29804aa6415d31b94596ce352c457"), looks := true }, kinds := [], alts := [], laidByText := true, laidKinds := [.data, .data, .data, .data, .handle, .sentinel, .sentinel, .sentinel, .pinned], laidTests := true, laidLooks := .later }
def ProxyMakesUptoCardSaid : Prop := Claim7.holds Tryz.pinned (.plain (OpenSpec.upto proxyMakesSpec)) proxyMakesUptoCard

/-- THE SECOND FORM's CARD OF 'variantproxylaw32.ProxyNil'. -/
def proxyNilUptoCard : Claim7 := { stood := { row := proxyNilUptoRow, standIns := [], harness := (true, "87466b0a1b7c4f66cd60988cdd31235049a29804aa6415d31b94596ce352c457"), looks := true }, kinds := [], alts := [], laidByText := true, laidKinds := [.data, .data, .data, .data, .handle, .sentinel, .sentinel, .sentinel, .pinned], laidTests := true, laidLooks := .later }
def ProxyNilUptoCardSaid : Prop := Claim7.holds Tryz.pinned (.plain (OpenSpec.upto proxyNilSpec)) proxyNilUptoCard
end Rows
end Go.Proofs.YtljjaiijlaeoeaaGreatDoor
