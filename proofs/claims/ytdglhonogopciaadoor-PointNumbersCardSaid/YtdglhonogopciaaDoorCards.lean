/-
  DERIVED. GIVEN WITH THE SEED: THE CARDS: each row of YtdglhonogopciaaDoorRows.lean that lists a variable, with what it lists TIED to the program's text (the seventh form; the later family's looks); each row that meets fmt, with fmt's text TOLD by the authors' own Lean function (tested against real Go, not proved from fmt's source: count such statements apart). THE CARD IS WHAT COUNTS. Prove the row's statement (the work); the ties are given (YtdglhonogopciaaDoorTie.lean); close each card by the builder's one call (the guide's Derived/Test/ToyasCard.lean, 'card_holds'). Laid BY PROGRAM, IN A SANDBOX (cutbox-door.mjs). By AI agents, Wed Nov 11 2026. No macro, syntax, notation, axiom, sorry.
-/
import Derived.Test.YtdglhonogopciaaDoorRows
import GoSem.ClaimSeven
namespace Go.Proofs.YtdglhonogopciaaDoor
namespace Rows

/-- THE TIED CARD OF 'permafrostlaw20.PointNewest'. -/
def pointNewestCard : Claim7 := { stood := { row := pointNewestRow, standIns := [], harness := (true, "ae339eb6aa1b37bc65562a7eddfd68386eb016266d5afe0608d59db97a48874f"), looks := false }, kinds := [], alts := [], laidByText := true, laidKinds := [.data, .pinned], laidTests := true, laidLooks := .later }
def PointNewestCardSaid : Prop := Claim7.holds Tryd.pinned (.plain (OpenSpec.ofChange pointNewestSpec)) pointNewestCard

/-- THE TIED CARD OF 'permafrostlaw20.PointNumbers'. -/
def pointNumbersCard : Claim7 := { stood := { row := pointNumbersRow, standIns := [], harness := (true, "ae339eb6aa1b37bc65562a7eddfd68386eb016266d5afe0608d59db97a48874f"), looks := false }, kinds := [], alts := [], laidByText := true, laidKinds := [.data, .pinned], laidTests := true, laidLooks := .later }
def PointNumbersCardSaid : Prop := Claim7.holds Tryd.pinned (.plain (OpenSpec.ofChange pointNumbersSpec)) pointNumbersCard

/-- THE TIED CARD OF 'permafrostlaw20.PointTells'. -/
def pointTellsCard : Claim7 := { stood := { row := pointTellsRow, standIns := [], harness := (true, "ae339eb6aa1b37bc65562a7eddfd68386eb016266d5afe0608d59db97a48874f"), looks := false }, kinds := [], alts := [], laidByText := true, laidKinds := [.data, .pinned], laidTests := true, laidLooks := .later }
def PointTellsCardSaid : Prop := Claim7.holds Tryd.pinned (.plain (OpenSpec.ofChange pointTellsSpec)) pointTellsCard

/-- THE TIED CARD OF 'permafrostlaw20.PointBack'. -/
def pointBackCard : Claim7 := { stood := { row := pointBackRow, standIns := [], harness := (true, "ae339eb6aa1b37bc65562a7eddfd68386eb016266d5afe0608d59db97a48874f"), looks := false }, kinds := [], alts := [], laidByText := true, laidKinds := [.data, .pinned], laidTests := true, laidLooks := .later }
def PointBackCardSaid : Prop := Claim7.holds Tryd.pinned (.plain (OpenSpec.ofChange pointBackSpec)) pointBackCard

/-- THE TIED CARD OF 'permafrostlaw20.PointRooms'. -/
def pointRoomsCard : Claim7 := { stood := { row := pointRoomsRow, standIns := [], harness := (true, "ae339eb6aa1b37bc65562a7eddfd68386eb016266d5afe0608d59db97a48874f"), looks := false }, kinds := [], alts := [], laidByText := true, laidKinds := [.data, .pinned], laidTests := true, laidLooks := .later }
def PointRoomsCardSaid : Prop := Claim7.holds Tryd.pinned (.plain (OpenSpec.ofChange pointRoomsSpec)) pointRoomsCard

/-- THE SECOND FORM's CARD OF 'permafrostlaw20.PointNewest'. -/
def pointNewestUptoCard : Claim7 := { stood := { row := pointNewestUptoRow, standIns := [], harness := (true, "ae339eb6aa1b37bc65562a7eddfd68386eb016266d5afe0608d59db97a48874f"), looks := false }, kinds := [], alts := [], laidByText := true, laidKinds := [.data, .pinned], laidTests := true, laidLooks := .later }
def PointNewestUptoCardSaid : Prop := Claim7.holds Tryd.pinned (.plain (OpenSpec.upto pointNewestSpec)) pointNewestUptoCard

/-- THE SECOND FORM's CARD OF 'permafrostlaw20.PointNumbers'. -/
def pointNumbersUptoCard : Claim7 := { stood := { row := pointNumbersUptoRow, standIns := [], harness := (true, "ae339eb6aa1b37bc65562a7eddfd68386eb016266d5afe0608d59db97a48874f"), looks := false }, kinds := [], alts := [], laidByText := true, laidKinds := [.data, .pinned], laidTests := true, laidLooks := .later }
def PointNumbersUptoCardSaid : Prop := Claim7.holds Tryd.pinned (.plain (OpenSpec.upto pointNumbersSpec)) pointNumbersUptoCard

/-- THE SECOND FORM's CARD OF 'permafrostlaw20.PointTells'. -/
def pointTellsUptoCard : Claim7 := { stood := { row := pointTellsUptoRow, standIns := [], harness := (true, "ae339eb6aa1b37bc65562a7eddfd68386eb016266d5afe0608d59db97a48874f"), looks := false }, kinds := [], alts := [], laidByText := true, laidKinds := [.data, .pinned], laidTests := true, laidLooks := .later }
def PointTellsUptoCardSaid : Prop := Claim7.holds Tryd.pinned (.plain (OpenSpec.upto pointTellsSpec)) pointTellsUptoCard

/-- THE SECOND FORM's CARD OF 'permafrostlaw20.PointBack'. -/
def pointBackUptoCard : Claim7 := { stood := { row := pointBackUptoRow, standIns := [], harness := (true, "ae339eb6aa1b37bc65562a7eddfd68386eb016266d5afe0608d59db97a48874f"), looks := false }, kinds := [], alts := [], laidByText := true, laidKinds := [.data, .pinned], laidTests := true, laidLooks := .later }
def PointBackUptoCardSaid : Prop := Claim7.holds Tryd.pinned (.plain (OpenSpec.upto pointBackSpec)) pointBackUptoCard

/-- THE SECOND FORM's CARD OF 'permafrostlaw20.PointRooms'. -/
def pointRoomsUptoCard : Claim7 := { stood := { row := pointRoomsUptoRow, standIns := [], harness := (true, "ae339eb6aa1b37bc65562a7eddfd68386eb016266d5afe0608d59db97a48874f"), looks := false }, kinds := [], alts := [], laidByText := true, laidKinds := [.data, .pinned], laidTests := true, laidLooks := .later }
def PointRoomsUptoCardSaid : Prop := Claim7.holds Tryd.pinned (.plain (OpenSpec.upto pointRoomsSpec)) pointRoomsUptoCard
end Rows
end Go.Proofs.YtdglhonogopciaaDoor
