/-
  DERIVED. GIVEN WITH THE SEED: THE CARDS: each row of YtmbkcohkmedpgaaDoorRows.lean that lists a variable, with what it lists TIED to the program's text (the seventh form; the later family's looks); each row that meets fmt, with fmt's text TOLD by the authors' own Lean function (tested against real Go, not proved from fmt's source: count such statements apart). THE CARD IS WHAT COUNTS. Prove the row's statement (the work); the ties are given (YtmbkcohkmedpgaaDoorTie.lean); close each card by the builder's one call (the guide's Derived/Test/ToyasCard.lean, 'card_holds'). Laid BY PROGRAM, IN A SANDBOX (cutbox-door.mjs). By AI agents, Wed Nov 11 2026. No macro, syntax, notation, axiom, sorry.
-/
import Derived.Test.YtmbkcohkmedpgaaDoorRows
import GoSem.ClaimSeven
namespace Go.Proofs.YtmbkcohkmedpgaaDoor
namespace Rows

/-- THE TIED CARD OF 'permafrostlaw1.FaultUnwraps'. -/
def faultUnwrapsCard : Claim7 := { stood := { row := faultUnwrapsRow, standIns := [], harness := (true, "d3611f3a5fde2737069531febd92685fc267cb827c6a8b38ef97da626cf58b49"), looks := true }, kinds := [], alts := [], laidByText := true, laidKinds := [.handle], laidTests := true, laidLooks := .later }
def FaultUnwrapsCardSaid : Prop := Claim7.holds Tryd.pinned (.plain (OpenSpec.ofChange faultUnwrapsSpec)) faultUnwrapsCard

/-- THE TIED CARD OF 'permafrostlaw1.FaultChains'. -/
def faultChainsCard : Claim7 := { stood := { row := faultChainsRow, standIns := [], harness := (true, "d3611f3a5fde2737069531febd92685fc267cb827c6a8b38ef97da626cf58b49"), looks := true }, kinds := [], alts := [], laidByText := true, laidKinds := [.handle], laidTests := true, laidLooks := .later }
def FaultChainsCardSaid : Prop := Claim7.holds Tryd.pinned (.plain (OpenSpec.ofChange faultChainsSpec)) faultChainsCard

/-- THE TIED CARD OF 'permafrostlaw1.FaultOuter'. -/
def faultOuterCard : Claim7 := { stood := { row := faultOuterRow, standIns := [], harness := (true, "d3611f3a5fde2737069531febd92685fc267cb827c6a8b38ef97da626cf58b49"), looks := true }, kinds := [], alts := [], laidByText := true, laidKinds := [.handle], laidTests := true, laidLooks := .later }
def FaultOuterCardSaid : Prop := Claim7.holds Tryd.pinned (.plain (OpenSpec.ofChange faultOuterSpec)) faultOuterCard

/-- THE TIED CARD OF 'permafrostlaw1.FaultNumbers'. -/
def faultNumbersCard : Claim7 := { stood := { row := faultNumbersRow, standIns := [], harness := (true, "d3611f3a5fde2737069531febd92685fc267cb827c6a8b38ef97da626cf58b49"), looks := true }, kinds := [], alts := [], laidByText := true, laidKinds := [.handle], laidTests := true, laidLooks := .later }
def FaultNumbersCardSaid : Prop := Claim7.holds Tryd.pinned (.plain (OpenSpec.ofChange faultNumbersSpec)) faultNumbersCard

/-- THE SECOND FORM's CARD OF 'permafrostlaw1.FaultUnwraps'. -/
def faultUnwrapsUptoCard : Claim7 := { stood := { row := faultUnwrapsUptoRow, standIns := [], harness := (true, "d3611f3a5fde2737069531febd92685fc267cb827c6a8b38ef97da626cf58b49"), looks := true }, kinds := [], alts := [], laidByText := true, laidKinds := [.handle], laidTests := true, laidLooks := .later }
def FaultUnwrapsUptoCardSaid : Prop := Claim7.holds Tryd.pinned (.plain (OpenSpec.upto faultUnwrapsSpec)) faultUnwrapsUptoCard

/-- THE SECOND FORM's CARD OF 'permafrostlaw1.FaultChains'. -/
def faultChainsUptoCard : Claim7 := { stood := { row := faultChainsUptoRow, standIns := [], harness := (true, "d3611f3a5fde2737069531febd92685fc267cb827c6a8b38ef97da626cf58b49"), looks := true }, kinds := [], alts := [], laidByText := true, laidKinds := [.handle], laidTests := true, laidLooks := .later }
def FaultChainsUptoCardSaid : Prop := Claim7.holds Tryd.pinned (.plain (OpenSpec.upto faultChainsSpec)) faultChainsUptoCard

/-- THE SECOND FORM's CARD OF 'permafrostlaw1.FaultOuter'. -/
def faultOuterUptoCard : Claim7 := { stood := { row := faultOuterUptoRow, standIns := [], harness := (true, "d3611f3a5fde2737069531febd92685fc267cb827c6a8b38ef97da626cf58b49"), looks := true }, kinds := [], alts := [], laidByText := true, laidKinds := [.handle], laidTests := true, laidLooks := .later }
def FaultOuterUptoCardSaid : Prop := Claim7.holds Tryd.pinned (.plain (OpenSpec.upto faultOuterSpec)) faultOuterUptoCard

/-- THE SECOND FORM's CARD OF 'permafrostlaw1.FaultNumbers'. -/
def faultNumbersUptoCard : Claim7 := { stood := { row := faultNumbersUptoRow, standIns := [], harness := (true, "d3611f3a5fde2737069531febd92685fc267cb827c6a8b38ef97da626cf58b49"), looks := true }, kinds := [], alts := [], laidByText := true, laidKinds := [.handle], laidTests := true, laidLooks := .later }
def FaultNumbersUptoCardSaid : Prop := Claim7.holds Tryd.pinned (.plain (OpenSpec.upto faultNumbersSpec)) faultNumbersUptoCard
end Rows
end Go.Proofs.YtmbkcohkmedpgaaDoor
