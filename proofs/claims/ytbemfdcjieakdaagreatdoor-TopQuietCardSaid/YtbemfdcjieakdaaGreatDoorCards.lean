/-
  DERIVED. GIVEN WITH THE SEED: THE CARDS: each row of YtbemfdcjieakdaaGreatDoorRows.lean that lists a variable, with what it lists TIED to the program's text (the seventh form; the later family's looks); each row that meets fmt, with fmt's text TOLD by the authors' own Lean function (tested against real Go, not proved from fmt's source: count such statements apart). THE CARD IS WHAT COUNTS. Prove the row's statement (the work); the ties are given (YtbemfdcjieakdaaGreatDoorTie.lean); close each card by the builder's one call (the guide's Derived/Test/ToyasCard.lean, 'card_holds'). Laid BY PROGRAM, IN A SANDBOX (cutbox-door.mjs). By AI agents, Wed Nov 11 2026. No macro, syntax, notation, axiom, sorry.
-/
import Derived.Test.YtbemfdcjieakdaaGreatDoorRows
import GoSem.ClaimSeven
namespace Go.Proofs.YtbemfdcjieakdaaGreatDoor
namespace Rows

/-- THE TIED CARD OF 'permafrosttop.TopQuiet'. -/
def topQuietCard : Claim7 := { stood := { row := topQuietRow, standIns := [], harness := (true, "5de2a55aff766721708c44db9bd08a0e24fcedce41501f246d80cbd0fd3990dc"), looks := true }, kinds := [], alts := [], laidByText := true, laidKinds := [.data, .pinned], laidTests := true, laidLooks := .later }
def TopQuietCardSaid : Prop := Claim7.holds Tryz.pinned (.plain (OpenSpec.ofChange topQuietSpec)) topQuietCard

/-- THE TIED CARD OF 'permafrosttop.TopSizes'. -/
def topSizesCard : Claim7 := { stood := { row := topSizesRow, standIns := [], harness := (true, "5de2a55aff766721708c44db9bd08a0e24fcedce41501f246d80cbd0fd3990dc"), looks := true }, kinds := [], alts := [], laidByText := true, laidKinds := [.data, .pinned], laidTests := true, laidLooks := .later }
def TopSizesCardSaid : Prop := Claim7.holds Tryz.pinned (.plain (OpenSpec.ofChange topSizesSpec)) topSizesCard

/-- THE SECOND FORM's CARD OF 'permafrosttop.TopQuiet'. -/
def topQuietUptoCard : Claim7 := { stood := { row := topQuietUptoRow, standIns := [], harness := (true, "5de2a55aff766721708c44db9bd08a0e24fcedce41501f246d80cbd0fd3990dc"), looks := true }, kinds := [], alts := [], laidByText := true, laidKinds := [.data, .pinned], laidTests := true, laidLooks := .later }
def TopQuietUptoCardSaid : Prop := Claim7.holds Tryz.pinned (.plain (OpenSpec.upto topQuietSpec)) topQuietUptoCard

/-- THE SECOND FORM's CARD OF 'permafrosttop.TopSizes'. -/
def topSizesUptoCard : Claim7 := { stood := { row := topSizesUptoRow, standIns := [], harness := (true, "5de2a55aff766721708c44db9bd08a0e24fcedce41501f246d80cbd0fd3990dc"), looks := true }, kinds := [], alts := [], laidByText := true, laidKinds := [.data, .pinned], laidTests := true, laidLooks := .later }
def TopSizesUptoCardSaid : Prop := Claim7.holds Tryz.pinned (.plain (OpenSpec.upto topSizesSpec)) topSizesUptoCard
end Rows
end Go.Proofs.YtbemfdcjieakdaaGreatDoor
