/-
  NARROWER THAN 'FOR EVERY INPUT', by the rows' own cells (each row's printed sentence says how): PointNewest: laid · PointNumbers: laid · PointTells: laid · PointBack: laid · PointRooms: laid.
  DERIVED. THE GIVEN ROWS OF THIS SEAT. 5 by the template 'for every input the law returns true; each argument reads behind the call as it read before'; 0 by the template 'total and deterministic' (their statements: YtdglhonogopciaaDoorTotals.lean).
  GIVEN WITH THE SEED: the statements are not yours to turn. If you find one false, say at which input.
  Laid BY PROGRAM, IN A SANDBOX (cutbox-rows.mjs): the forced cells as the released guide's own fill.sh prints them over the translation 39dc43f6bdec1155… (all of the seat's roots in one cut). By AI agents, Wed Nov 11 2026. No macro, syntax, notation, axiom, sorry.
-/
import Derived.Test.YtdglhonogopciaaDoorChecked
import GoSem.PinnedTables
import GoSem.Claim
import GoSem.ClaimJoined
import GoSem.ClaimMapViews
import Derived.JoinedTies
import Derived.KernelRfl
namespace Go.Proofs.YtdglhonogopciaaDoor
/- THE CELL 'sum', in the pinned program and in every row, IS THE sha256 OF THE DUMP (.gsa) THAT YtdglhonogopciaaDoorProg.lean LOADS. Nothing in Lean hashes anything: it is a label: what it is worth is what the hold of that sum in a sandbox is worth. -/
noncomputable def Tryd.pinned : Pinned := { name := "ytdglhonogopciaadoor", sum := "39dc43f6bdec115521ad6ab2a39b45de534224d3ec743c549c56df0b319e5d31", checked := Tryd.checked }
namespace Rows
def none {H : Type} : Left H := { results := [], args := [] }

/- WHAT THE LISTED PACKAGE-LEVEL VARIABLES READ AS WHEN THE CALL BEGINS. Each datum BY PROGRAM (the guide's laid-datum.mjs) off the statement by which the dump's own 'gosem.cut.vars' lays the variable. In a bare row this is a premise. The card (YtdglhonogopciaaDoorCards.lean) ties it to the program's text. -/
def laid_unicode_utf8_acceptRanges {H : Type} : DataW H := .agg [.agg [.lit (.int .u8 128), .lit (.int .u8 191)], .agg [.lit (.int .u8 160), .lit (.int .u8 191)], .agg [.lit (.int .u8 128), .lit (.int .u8 159)], .agg [.lit (.int .u8 144), .lit (.int .u8 191)], .agg [.lit (.int .u8 128), .lit (.int .u8 143)], .agg [.lit (.int .u8 0), .lit (.int .u8 0)], .agg [.lit (.int .u8 0), .lit (.int .u8 0)], .agg [.lit (.int .u8 0), .lit (.int .u8 0)], .agg [.lit (.int .u8 0), .lit (.int .u8 0)], .agg [.lit (.int .u8 0), .lit (.int .u8 0)], .agg [.lit (.int .u8 0), .lit (.int .u8 0)], .agg [.lit (.int .u8 0), .lit (.int .u8 0)], .agg [.lit (.int .u8 0), .lit (.int .u8 0)], .agg [.lit (.int .u8 0), .lit (.int .u8 0)], .agg [.lit (.int .u8 0), .lit (.int .u8 0)], .agg [.lit (.int .u8 0), .lit (.int .u8 0)]]
/-- One of Go's own tables, pinned by name: the form's constant. -/
def laid_unicode_utf8_first : DataW Unit := Go.Pinned.utf8First

/-- 'permafrostlaw20.PointNewest': WHATEVER THE INPUT: true; the input reads as it did. -/
def pointNewestSpec : ChangeSpec := { name := "pointNewest", fn := fun _ => fun
  | [d1, d2, d3, d4] => { results := [.lit (.bool true)], args := [d1, d2, d3, d4] }
  | _ => none }
def pointNewestRow : OpenClaim := { program := "ytdglhonogopciaadoor", sum := "39dc43f6bdec115521ad6ab2a39b45de534224d3ec743c549c56df0b319e5d31", func := "permafrost/permafrostlaw20.PointNewest", spec := "pointNewest", named := ["unicode/utf8.first", "unicode/utf8.acceptRanges"], apart := false, laid := [("unicode/utf8.acceptRanges", laid_unicode_utf8_acceptRanges), ("unicode/utf8.first", laid_unicode_utf8_first)] }
def PointNewestSaid : Prop := pointNewestRow.holds Tryd.pinned (OpenSpec.ofChange pointNewestSpec)

/-- ITS FALSE NEIGHBOUR: 'it returns false'. Refute it at one input. -/
def pointNewestWrong : ChangeSpec := { name := "pointNewest", fn := fun _ => fun
  | [d1, d2, d3, d4] => { results := [.lit (.bool false)], args := [d1, d2, d3, d4] }
  | _ => none }
def PointNewestWrongFalsely : Prop := pointNewestRow.holds Tryd.pinned (OpenSpec.ofChange pointNewestWrong)

/-- 'permafrostlaw20.PointNumbers': WHATEVER THE INPUT: true; the input reads as it did. -/
def pointNumbersSpec : ChangeSpec := { name := "pointNumbers", fn := fun _ => fun
  | [] => { results := [.lit (.bool true)], args := [] }
  | _ => none }
def pointNumbersRow : OpenClaim := { program := "ytdglhonogopciaadoor", sum := "39dc43f6bdec115521ad6ab2a39b45de534224d3ec743c549c56df0b319e5d31", func := "permafrost/permafrostlaw20.PointNumbers", spec := "pointNumbers", named := ["unicode/utf8.first", "unicode/utf8.acceptRanges"], apart := false, laid := [("unicode/utf8.acceptRanges", laid_unicode_utf8_acceptRanges), ("unicode/utf8.first", laid_unicode_utf8_first)] }
def PointNumbersSaid : Prop := pointNumbersRow.holds Tryd.pinned (OpenSpec.ofChange pointNumbersSpec)

/-- ITS FALSE NEIGHBOUR: 'it returns false'. Refute it at one input. -/
def pointNumbersWrong : ChangeSpec := { name := "pointNumbers", fn := fun _ => fun
  | [] => { results := [.lit (.bool false)], args := [] }
  | _ => none }
def PointNumbersWrongFalsely : Prop := pointNumbersRow.holds Tryd.pinned (OpenSpec.ofChange pointNumbersWrong)

/-- 'permafrostlaw20.PointTells': WHATEVER THE INPUT: true; the input reads as it did. -/
def pointTellsSpec : ChangeSpec := { name := "pointTells", fn := fun _ => fun
  | [d1, d2, d3, d4, d5] => { results := [.lit (.bool true)], args := [d1, d2, d3, d4, d5] }
  | _ => none }
def pointTellsRow : OpenClaim := { program := "ytdglhonogopciaadoor", sum := "39dc43f6bdec115521ad6ab2a39b45de534224d3ec743c549c56df0b319e5d31", func := "permafrost/permafrostlaw20.PointTells", spec := "pointTells", named := ["unicode/utf8.first", "unicode/utf8.acceptRanges"], apart := false, laid := [("unicode/utf8.acceptRanges", laid_unicode_utf8_acceptRanges), ("unicode/utf8.first", laid_unicode_utf8_first)] }
def PointTellsSaid : Prop := pointTellsRow.holds Tryd.pinned (OpenSpec.ofChange pointTellsSpec)

/-- ITS FALSE NEIGHBOUR: 'it returns false'. Refute it at one input. -/
def pointTellsWrong : ChangeSpec := { name := "pointTells", fn := fun _ => fun
  | [d1, d2, d3, d4, d5] => { results := [.lit (.bool false)], args := [d1, d2, d3, d4, d5] }
  | _ => none }
def PointTellsWrongFalsely : Prop := pointTellsRow.holds Tryd.pinned (OpenSpec.ofChange pointTellsWrong)

/-- 'permafrostlaw20.PointBack': WHATEVER THE INPUT: true; the input reads as it did. -/
def pointBackSpec : ChangeSpec := { name := "pointBack", fn := fun _ => fun
  | [d1, d2, d3, d4] => { results := [.lit (.bool true)], args := [d1, d2, d3, d4] }
  | _ => none }
def pointBackRow : OpenClaim := { program := "ytdglhonogopciaadoor", sum := "39dc43f6bdec115521ad6ab2a39b45de534224d3ec743c549c56df0b319e5d31", func := "permafrost/permafrostlaw20.PointBack", spec := "pointBack", named := ["unicode/utf8.first", "unicode/utf8.acceptRanges"], apart := false, laid := [("unicode/utf8.acceptRanges", laid_unicode_utf8_acceptRanges), ("unicode/utf8.first", laid_unicode_utf8_first)] }
def PointBackSaid : Prop := pointBackRow.holds Tryd.pinned (OpenSpec.ofChange pointBackSpec)

/-- ITS FALSE NEIGHBOUR: 'it returns false'. Refute it at one input. -/
def pointBackWrong : ChangeSpec := { name := "pointBack", fn := fun _ => fun
  | [d1, d2, d3, d4] => { results := [.lit (.bool false)], args := [d1, d2, d3, d4] }
  | _ => none }
def PointBackWrongFalsely : Prop := pointBackRow.holds Tryd.pinned (OpenSpec.ofChange pointBackWrong)

/-- 'permafrostlaw20.PointRooms': WHATEVER THE INPUT: true; the input reads as it did. -/
def pointRoomsSpec : ChangeSpec := { name := "pointRooms", fn := fun _ => fun
  | [d1, d2] => { results := [.lit (.bool true)], args := [d1, d2] }
  | _ => none }
def pointRoomsRow : OpenClaim := { program := "ytdglhonogopciaadoor", sum := "39dc43f6bdec115521ad6ab2a39b45de534224d3ec743c549c56df0b319e5d31", func := "permafrost/permafrostlaw20.PointRooms", spec := "pointRooms", named := ["unicode/utf8.first", "unicode/utf8.acceptRanges"], apart := false, laid := [("unicode/utf8.acceptRanges", laid_unicode_utf8_acceptRanges), ("unicode/utf8.first", laid_unicode_utf8_first)] }
def PointRoomsSaid : Prop := pointRoomsRow.holds Tryd.pinned (OpenSpec.ofChange pointRoomsSpec)

/-- ITS FALSE NEIGHBOUR: 'it returns false'. Refute it at one input. -/
def pointRoomsWrong : ChangeSpec := { name := "pointRooms", fn := fun _ => fun
  | [d1, d2] => { results := [.lit (.bool false)], args := [d1, d2] }
  | _ => none }
def PointRoomsWrongFalsely : Prop := pointRoomsRow.holds Tryd.pinned (OpenSpec.ofChange pointRoomsWrong)

/- THE SECOND FORM. 'bulk': how many values and letters a reading holds, each counted each time it is reached (what is shared counts as often as it is met; a slice's spare places count too). A statement '..UptoSaid' is the law's where the arguments, and the package variables that the reading takes, are together of bulk at most 1048576: NARROWER than '..Said'. Prove '..Said' where nothing that the law and all that it calls make is longer than what came in: it says more and counts as full. Else prove '..UptoSaid'. A law counts once. -/
mutual
def uptoBulk {H : Type} : DataW H → Nat
  | .lit (.string bytes) => bytes.length + 1
  | .lit _ => 1
  | .nil => 1
  | .ptr d => uptoBulk d + 1
  | .slice elems spare => uptoBulkAll elems + uptoBulkAll spare + 1
  | .agg parts => uptoBulkAll parts + 1
  | .iface _ d => uptoBulk d + 1
  | .map entries => uptoBulkEntries entries + 1
  | .held _ => 1
def uptoBulkAll {H : Type} : List (DataW H) → Nat
  | [] => 0
  | d :: r => uptoBulk d + uptoBulkAll r
def uptoBulkEntries {H : Type} : List (Lit × DataW H) → Nat
  | [] => 0
  | x :: r => uptoBulkEntry x + uptoBulkEntries r
def uptoBulkEntry {H : Type} : Lit × DataW H → Nat
  | (.string bytes, d) => bytes.length + uptoBulk d + 1
  | (_, d) => uptoBulk d + 1
 end
def uptoSmall : (H : Type) → List (DataW H) → Bool := fun _ ds => decide (uptoBulkAll ds ≤ 1048576)
def OpenSpec.upto (s : _root_.Go.ChangeSpec) : _root_.Go.OpenSpec := { _root_.Go.OpenSpec.ofChange s with cond := some uptoSmall }

/-- 'permafrostlaw20.PointNewest', WHERE WHAT IT READS IS OF BULK AT MOST 1048576: true; the input reads as it did. -/
def pointNewestUptoRow : OpenClaim := { program := "ytdglhonogopciaadoor", sum := "39dc43f6bdec115521ad6ab2a39b45de534224d3ec743c549c56df0b319e5d31", func := "permafrost/permafrostlaw20.PointNewest", spec := "pointNewest", named := ["unicode/utf8.first", "unicode/utf8.acceptRanges"], apart := false, laid := [("unicode/utf8.acceptRanges", laid_unicode_utf8_acceptRanges), ("unicode/utf8.first", laid_unicode_utf8_first)], narrowed := true }
def PointNewestUptoSaid : Prop := pointNewestUptoRow.holds Tryd.pinned (OpenSpec.upto pointNewestSpec)

/-- 'permafrostlaw20.PointNumbers', WHERE WHAT IT READS IS OF BULK AT MOST 1048576: true; the input reads as it did. -/
def pointNumbersUptoRow : OpenClaim := { program := "ytdglhonogopciaadoor", sum := "39dc43f6bdec115521ad6ab2a39b45de534224d3ec743c549c56df0b319e5d31", func := "permafrost/permafrostlaw20.PointNumbers", spec := "pointNumbers", named := ["unicode/utf8.first", "unicode/utf8.acceptRanges"], apart := false, laid := [("unicode/utf8.acceptRanges", laid_unicode_utf8_acceptRanges), ("unicode/utf8.first", laid_unicode_utf8_first)], narrowed := true }
def PointNumbersUptoSaid : Prop := pointNumbersUptoRow.holds Tryd.pinned (OpenSpec.upto pointNumbersSpec)

/-- 'permafrostlaw20.PointTells', WHERE WHAT IT READS IS OF BULK AT MOST 1048576: true; the input reads as it did. -/
def pointTellsUptoRow : OpenClaim := { program := "ytdglhonogopciaadoor", sum := "39dc43f6bdec115521ad6ab2a39b45de534224d3ec743c549c56df0b319e5d31", func := "permafrost/permafrostlaw20.PointTells", spec := "pointTells", named := ["unicode/utf8.first", "unicode/utf8.acceptRanges"], apart := false, laid := [("unicode/utf8.acceptRanges", laid_unicode_utf8_acceptRanges), ("unicode/utf8.first", laid_unicode_utf8_first)], narrowed := true }
def PointTellsUptoSaid : Prop := pointTellsUptoRow.holds Tryd.pinned (OpenSpec.upto pointTellsSpec)

/-- 'permafrostlaw20.PointBack', WHERE WHAT IT READS IS OF BULK AT MOST 1048576: true; the input reads as it did. -/
def pointBackUptoRow : OpenClaim := { program := "ytdglhonogopciaadoor", sum := "39dc43f6bdec115521ad6ab2a39b45de534224d3ec743c549c56df0b319e5d31", func := "permafrost/permafrostlaw20.PointBack", spec := "pointBack", named := ["unicode/utf8.first", "unicode/utf8.acceptRanges"], apart := false, laid := [("unicode/utf8.acceptRanges", laid_unicode_utf8_acceptRanges), ("unicode/utf8.first", laid_unicode_utf8_first)], narrowed := true }
def PointBackUptoSaid : Prop := pointBackUptoRow.holds Tryd.pinned (OpenSpec.upto pointBackSpec)

/-- 'permafrostlaw20.PointRooms', WHERE WHAT IT READS IS OF BULK AT MOST 1048576: true; the input reads as it did. -/
def pointRoomsUptoRow : OpenClaim := { program := "ytdglhonogopciaadoor", sum := "39dc43f6bdec115521ad6ab2a39b45de534224d3ec743c549c56df0b319e5d31", func := "permafrost/permafrostlaw20.PointRooms", spec := "pointRooms", named := ["unicode/utf8.first", "unicode/utf8.acceptRanges"], apart := false, laid := [("unicode/utf8.acceptRanges", laid_unicode_utf8_acceptRanges), ("unicode/utf8.first", laid_unicode_utf8_first)], narrowed := true }
def PointRoomsUptoSaid : Prop := pointRoomsUptoRow.holds Tryd.pinned (OpenSpec.upto pointRoomsSpec)

end Rows
end Go.Proofs.YtdglhonogopciaaDoor
