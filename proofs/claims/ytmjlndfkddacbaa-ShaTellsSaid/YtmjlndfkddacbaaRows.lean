/-
  No cell of these rows narrows 'for every input' (looked for: loops, veiled, ifaces, maps, wideKeys, modest, calm, conditions, laid).
  DERIVED. THE GIVEN ROWS OF THIS SEAT. 9 by the template 'for every input the law returns true; each argument reads behind the call as it read before'; 0 by the template 'total and deterministic' (their statements: YtmjlndfkddacbaaTotals.lean).
  GIVEN WITH THE SEED: the statements are not yours to turn. If you find one false, say at which input.
  Laid BY PROGRAM, IN A SANDBOX (cutbox-rows.mjs): the forced cells as the released guide's own fill.sh prints them over the translation f431e3075eb0f6f7… (all of the seat's roots in one cut). By AI agents, Wed Nov 11 2026. No macro, syntax, notation, axiom, sorry.
-/
import Derived.Test.YtmjlndfkddacbaaChecked
import GoSem.Claim
import GoSem.ClaimJoined
import GoSem.ClaimMapViews
import Derived.JoinedTies
import Derived.KernelRfl
namespace Go.Proofs.Ytmjlndfkddacbaa
/- THE CELL 'sum', in the pinned program and in every row, IS THE sha256 OF THE DUMP (.gsa) THAT YtmjlndfkddacbaaProg.lean LOADS. Nothing in Lean hashes anything: it is a label: what it is worth is what the hold of that sum in a sandbox is worth. -/
noncomputable def Try.pinned : Pinned := { name := "ytmjlndfkddacbaa", sum := "f431e3075eb0f6f71b1f1bd7bda11415d1edf1820b0a71b8b422a6cea2696cea", checked := Try.checked }
namespace Rows
def none {H : Type} : Left H := { results := [], args := [] }

/-- 'permafrostlaw16.RecordNumbers': WHATEVER THE INPUT: true; the input reads as it did. -/
def recordNumbersSpec : ChangeSpec := { name := "recordNumbers", fn := fun _ => fun
  | [] => { results := [.lit (.bool true)], args := [] }
  | _ => none }
def recordNumbersRow : OpenClaim := { program := "ytmjlndfkddacbaa", sum := "f431e3075eb0f6f71b1f1bd7bda11415d1edf1820b0a71b8b422a6cea2696cea", func := "permafrost/permafrostlaw16.RecordNumbers", spec := "recordNumbers", apart := false }
def RecordNumbersSaid : Prop := recordNumbersRow.holds Try.pinned (OpenSpec.ofChange recordNumbersSpec)

/-- ITS FALSE NEIGHBOUR: 'it returns false'. Refute it at one input. -/
def recordNumbersWrong : ChangeSpec := { name := "recordNumbers", fn := fun _ => fun
  | [] => { results := [.lit (.bool false)], args := [] }
  | _ => none }
def RecordNumbersWrongFalsely : Prop := recordNumbersRow.holds Try.pinned (OpenSpec.ofChange recordNumbersWrong)

/-- 'permafrostlaw16.RecordTells': WHATEVER THE INPUT: true; the input reads as it did. -/
def recordTellsSpec : ChangeSpec := { name := "recordTells", fn := fun _ => fun
  | [d1, d2, d3, d4, d5] => { results := [.lit (.bool true)], args := [d1, d2, d3, d4, d5] }
  | _ => none }
def recordTellsRow : OpenClaim := { program := "ytmjlndfkddacbaa", sum := "f431e3075eb0f6f71b1f1bd7bda11415d1edf1820b0a71b8b422a6cea2696cea", func := "permafrost/permafrostlaw16.RecordTells", spec := "recordTells", apart := false }
def RecordTellsSaid : Prop := recordTellsRow.holds Try.pinned (OpenSpec.ofChange recordTellsSpec)

/-- ITS FALSE NEIGHBOUR: 'it returns false'. Refute it at one input. -/
def recordTellsWrong : ChangeSpec := { name := "recordTells", fn := fun _ => fun
  | [d1, d2, d3, d4, d5] => { results := [.lit (.bool false)], args := [d1, d2, d3, d4, d5] }
  | _ => none }
def RecordTellsWrongFalsely : Prop := recordTellsRow.holds Try.pinned (OpenSpec.ofChange recordTellsWrong)

/-- 'permafrostlaw16.RecordBack': WHATEVER THE INPUT: true; the input reads as it did. -/
def recordBackSpec : ChangeSpec := { name := "recordBack", fn := fun _ => fun
  | [d1, d2, d3, d4] => { results := [.lit (.bool true)], args := [d1, d2, d3, d4] }
  | _ => none }
def recordBackRow : OpenClaim := { program := "ytmjlndfkddacbaa", sum := "f431e3075eb0f6f71b1f1bd7bda11415d1edf1820b0a71b8b422a6cea2696cea", func := "permafrost/permafrostlaw16.RecordBack", spec := "recordBack", apart := false }
def RecordBackSaid : Prop := recordBackRow.holds Try.pinned (OpenSpec.ofChange recordBackSpec)

/-- ITS FALSE NEIGHBOUR: 'it returns false'. Refute it at one input. -/
def recordBackWrong : ChangeSpec := { name := "recordBack", fn := fun _ => fun
  | [d1, d2, d3, d4] => { results := [.lit (.bool false)], args := [d1, d2, d3, d4] }
  | _ => none }
def RecordBackWrongFalsely : Prop := recordBackRow.holds Try.pinned (OpenSpec.ofChange recordBackWrong)

/-- 'permafrostlaw16.RecordSizes': WHATEVER THE INPUT: true; the input reads as it did. -/
def recordSizesSpec : ChangeSpec := { name := "recordSizes", fn := fun _ => fun
  | [d1, d2, d3] => { results := [.lit (.bool true)], args := [d1, d2, d3] }
  | _ => none }
def recordSizesRow : OpenClaim := { program := "ytmjlndfkddacbaa", sum := "f431e3075eb0f6f71b1f1bd7bda11415d1edf1820b0a71b8b422a6cea2696cea", func := "permafrost/permafrostlaw16.RecordSizes", spec := "recordSizes", apart := false }
def RecordSizesSaid : Prop := recordSizesRow.holds Try.pinned (OpenSpec.ofChange recordSizesSpec)

/-- ITS FALSE NEIGHBOUR: 'it returns false'. Refute it at one input. -/
def recordSizesWrong : ChangeSpec := { name := "recordSizes", fn := fun _ => fun
  | [d1, d2, d3] => { results := [.lit (.bool false)], args := [d1, d2, d3] }
  | _ => none }
def RecordSizesWrongFalsely : Prop := recordSizesRow.holds Try.pinned (OpenSpec.ofChange recordSizesWrong)

/-- 'permafrostlaw2.ShaStreams': WHATEVER THE INPUT: true; the input reads as it did. -/
def shaStreamsSpec : ChangeSpec := { name := "shaStreams", fn := fun _ => fun
  | [d1, d2, d3, d4] => { results := [.lit (.bool true)], args := [d1, d2, d3, d4] }
  | _ => none }
def shaStreamsRow : OpenClaim := { program := "ytmjlndfkddacbaa", sum := "f431e3075eb0f6f71b1f1bd7bda11415d1edf1820b0a71b8b422a6cea2696cea", func := "permafrost/permafrostlaw2.ShaStreams", spec := "shaStreams", apart := false }
def ShaStreamsSaid : Prop := shaStreamsRow.holds Try.pinned (OpenSpec.ofChange shaStreamsSpec)

/-- ITS FALSE NEIGHBOUR: 'it returns false'. Refute it at one input. -/
def shaStreamsWrong : ChangeSpec := { name := "shaStreams", fn := fun _ => fun
  | [d1, d2, d3, d4] => { results := [.lit (.bool false)], args := [d1, d2, d3, d4] }
  | _ => none }
def ShaStreamsWrongFalsely : Prop := shaStreamsRow.holds Try.pinned (OpenSpec.ofChange shaStreamsWrong)

/-- 'permafrostlaw2.ShaParts': WHATEVER THE INPUT: true; the input reads as it did. -/
def shaPartsSpec : ChangeSpec := { name := "shaParts", fn := fun _ => fun
  | [d1, d2] => { results := [.lit (.bool true)], args := [d1, d2] }
  | _ => none }
def shaPartsRow : OpenClaim := { program := "ytmjlndfkddacbaa", sum := "f431e3075eb0f6f71b1f1bd7bda11415d1edf1820b0a71b8b422a6cea2696cea", func := "permafrost/permafrostlaw2.ShaParts", spec := "shaParts", apart := false }
def ShaPartsSaid : Prop := shaPartsRow.holds Try.pinned (OpenSpec.ofChange shaPartsSpec)

/-- ITS FALSE NEIGHBOUR: 'it returns false'. Refute it at one input. -/
def shaPartsWrong : ChangeSpec := { name := "shaParts", fn := fun _ => fun
  | [d1, d2] => { results := [.lit (.bool false)], args := [d1, d2] }
  | _ => none }
def ShaPartsWrongFalsely : Prop := shaPartsRow.holds Try.pinned (OpenSpec.ofChange shaPartsWrong)

/-- 'permafrostlaw2.ShaNumbers': WHATEVER THE INPUT: true; the input reads as it did. -/
def shaNumbersSpec : ChangeSpec := { name := "shaNumbers", fn := fun _ => fun
  | [] => { results := [.lit (.bool true)], args := [] }
  | _ => none }
def shaNumbersRow : OpenClaim := { program := "ytmjlndfkddacbaa", sum := "f431e3075eb0f6f71b1f1bd7bda11415d1edf1820b0a71b8b422a6cea2696cea", func := "permafrost/permafrostlaw2.ShaNumbers", spec := "shaNumbers", apart := false }
def ShaNumbersSaid : Prop := shaNumbersRow.holds Try.pinned (OpenSpec.ofChange shaNumbersSpec)

/-- ITS FALSE NEIGHBOUR: 'it returns false'. Refute it at one input. -/
def shaNumbersWrong : ChangeSpec := { name := "shaNumbers", fn := fun _ => fun
  | [] => { results := [.lit (.bool false)], args := [] }
  | _ => none }
def ShaNumbersWrongFalsely : Prop := shaNumbersRow.holds Try.pinned (OpenSpec.ofChange shaNumbersWrong)

/-- 'permafrostlaw2.ShaTells': WHATEVER THE INPUT: true; the input reads as it did. -/
def shaTellsSpec : ChangeSpec := { name := "shaTells", fn := fun _ => fun
  | [d1, d2, d3] => { results := [.lit (.bool true)], args := [d1, d2, d3] }
  | _ => none }
def shaTellsRow : OpenClaim := { program := "ytmjlndfkddacbaa", sum := "f431e3075eb0f6f71b1f1bd7bda11415d1edf1820b0a71b8b422a6cea2696cea", func := "permafrost/permafrostlaw2.ShaTells", spec := "shaTells", apart := false }
def ShaTellsSaid : Prop := shaTellsRow.holds Try.pinned (OpenSpec.ofChange shaTellsSpec)

/-- ITS FALSE NEIGHBOUR: 'it returns false'. Refute it at one input. -/
def shaTellsWrong : ChangeSpec := { name := "shaTells", fn := fun _ => fun
  | [d1, d2, d3] => { results := [.lit (.bool false)], args := [d1, d2, d3] }
  | _ => none }
def ShaTellsWrongFalsely : Prop := shaTellsRow.holds Try.pinned (OpenSpec.ofChange shaTellsWrong)

/-- 'permafrostlaw9.BmapGlues': WHATEVER THE INPUT: true; the input reads as it did. -/
def bmapGluesSpec : ChangeSpec := { name := "bmapGlues", fn := fun _ => fun
  | [d1, d2, d3] => { results := [.lit (.bool true)], args := [d1, d2, d3] }
  | _ => none }
def bmapGluesRow : OpenClaim := { program := "ytmjlndfkddacbaa", sum := "f431e3075eb0f6f71b1f1bd7bda11415d1edf1820b0a71b8b422a6cea2696cea", func := "permafrost/permafrostlaw9.BmapGlues", spec := "bmapGlues", unfollowed := true, recurses := true, apart := false }
def BmapGluesSaid : Prop := bmapGluesRow.holds Try.pinned (OpenSpec.ofChange bmapGluesSpec)

/-- ITS FALSE NEIGHBOUR: 'it returns false'. Refute it at one input. -/
def bmapGluesWrong : ChangeSpec := { name := "bmapGlues", fn := fun _ => fun
  | [d1, d2, d3] => { results := [.lit (.bool false)], args := [d1, d2, d3] }
  | _ => none }
def BmapGluesWrongFalsely : Prop := bmapGluesRow.holds Try.pinned (OpenSpec.ofChange bmapGluesWrong)

/- THE SECOND FORM. 'bulk': how many values and letters a reading holds, each counted each time it is reached (what is shared counts as often as it is met; a slice's spare places count too). A statement '..UptoSaid' is the law's where the arguments, and the package variables that the reading takes, are together of bulk at most 1048576: NARROWER than '..Said'. Prove '..Said' where nothing that the law and all that it calls make is longer than what came in: it says more and counts as full. Else prove '..UptoSaid'. A law counts once. -/
mutual
def uptoBulk {H : Type} : DataW H → Nat
  | .lit (.string bytes) => bytes.length + 1
  | .lit _ => 1
  | .nil => 1
  | .ptr d => uptoBulk d + 1
  | .slice elems spare => uptoBulkAll elems + uptoBulkAll spare + 1
  | .agg parts => uptoBulkAll parts + 1
  | .iface _ d => uptoBulk d + 1
  | .map entries => uptoBulkEntries entries + 1
  | .held _ => 1
def uptoBulkAll {H : Type} : List (DataW H) → Nat
  | [] => 0
  | d :: r => uptoBulk d + uptoBulkAll r
def uptoBulkEntries {H : Type} : List (Lit × DataW H) → Nat
  | [] => 0
  | x :: r => uptoBulkEntry x + uptoBulkEntries r
def uptoBulkEntry {H : Type} : Lit × DataW H → Nat
  | (.string bytes, d) => bytes.length + uptoBulk d + 1
  | (_, d) => uptoBulk d + 1
 end
def uptoSmall : (H : Type) → List (DataW H) → Bool := fun _ ds => decide (uptoBulkAll ds ≤ 1048576)
def OpenSpec.upto (s : _root_.Go.ChangeSpec) : _root_.Go.OpenSpec := { _root_.Go.OpenSpec.ofChange s with cond := some uptoSmall }

/-- 'permafrostlaw16.RecordNumbers', WHERE WHAT IT READS IS OF BULK AT MOST 1048576: true; the input reads as it did. -/
def recordNumbersUptoRow : OpenClaim := { program := "ytmjlndfkddacbaa", sum := "f431e3075eb0f6f71b1f1bd7bda11415d1edf1820b0a71b8b422a6cea2696cea", func := "permafrost/permafrostlaw16.RecordNumbers", spec := "recordNumbers", apart := false, narrowed := true }
def RecordNumbersUptoSaid : Prop := recordNumbersUptoRow.holds Try.pinned (OpenSpec.upto recordNumbersSpec)

/-- 'permafrostlaw16.RecordTells', WHERE WHAT IT READS IS OF BULK AT MOST 1048576: true; the input reads as it did. -/
def recordTellsUptoRow : OpenClaim := { program := "ytmjlndfkddacbaa", sum := "f431e3075eb0f6f71b1f1bd7bda11415d1edf1820b0a71b8b422a6cea2696cea", func := "permafrost/permafrostlaw16.RecordTells", spec := "recordTells", apart := false, narrowed := true }
def RecordTellsUptoSaid : Prop := recordTellsUptoRow.holds Try.pinned (OpenSpec.upto recordTellsSpec)

/-- 'permafrostlaw16.RecordBack', WHERE WHAT IT READS IS OF BULK AT MOST 1048576: true; the input reads as it did. -/
def recordBackUptoRow : OpenClaim := { program := "ytmjlndfkddacbaa", sum := "f431e3075eb0f6f71b1f1bd7bda11415d1edf1820b0a71b8b422a6cea2696cea", func := "permafrost/permafrostlaw16.RecordBack", spec := "recordBack", apart := false, narrowed := true }
def RecordBackUptoSaid : Prop := recordBackUptoRow.holds Try.pinned (OpenSpec.upto recordBackSpec)

/-- 'permafrostlaw16.RecordSizes', WHERE WHAT IT READS IS OF BULK AT MOST 1048576: true; the input reads as it did. -/
def recordSizesUptoRow : OpenClaim := { program := "ytmjlndfkddacbaa", sum := "f431e3075eb0f6f71b1f1bd7bda11415d1edf1820b0a71b8b422a6cea2696cea", func := "permafrost/permafrostlaw16.RecordSizes", spec := "recordSizes", apart := false, narrowed := true }
def RecordSizesUptoSaid : Prop := recordSizesUptoRow.holds Try.pinned (OpenSpec.upto recordSizesSpec)

/-- 'permafrostlaw2.ShaStreams', WHERE WHAT IT READS IS OF BULK AT MOST 1048576: true; the input reads as it did. -/
def shaStreamsUptoRow : OpenClaim := { program := "ytmjlndfkddacbaa", sum := "f431e3075eb0f6f71b1f1bd7bda11415d1edf1820b0a71b8b422a6cea2696cea", func := "permafrost/permafrostlaw2.ShaStreams", spec := "shaStreams", apart := false, narrowed := true }
def ShaStreamsUptoSaid : Prop := shaStreamsUptoRow.holds Try.pinned (OpenSpec.upto shaStreamsSpec)

/-- 'permafrostlaw2.ShaParts', WHERE WHAT IT READS IS OF BULK AT MOST 1048576: true; the input reads as it did. -/
def shaPartsUptoRow : OpenClaim := { program := "ytmjlndfkddacbaa", sum := "f431e3075eb0f6f71b1f1bd7bda11415d1edf1820b0a71b8b422a6cea2696cea", func := "permafrost/permafrostlaw2.ShaParts", spec := "shaParts", apart := false, narrowed := true }
def ShaPartsUptoSaid : Prop := shaPartsUptoRow.holds Try.pinned (OpenSpec.upto shaPartsSpec)

/-- 'permafrostlaw2.ShaNumbers', WHERE WHAT IT READS IS OF BULK AT MOST 1048576: true; the input reads as it did. -/
def shaNumbersUptoRow : OpenClaim := { program := "ytmjlndfkddacbaa", sum := "f431e3075eb0f6f71b1f1bd7bda11415d1edf1820b0a71b8b422a6cea2696cea", func := "permafrost/permafrostlaw2.ShaNumbers", spec := "shaNumbers", apart := false, narrowed := true }
def ShaNumbersUptoSaid : Prop := shaNumbersUptoRow.holds Try.pinned (OpenSpec.upto shaNumbersSpec)

/-- 'permafrostlaw2.ShaTells', WHERE WHAT IT READS IS OF BULK AT MOST 1048576: true; the input reads as it did. -/
def shaTellsUptoRow : OpenClaim := { program := "ytmjlndfkddacbaa", sum := "f431e3075eb0f6f71b1f1bd7bda11415d1edf1820b0a71b8b422a6cea2696cea", func := "permafrost/permafrostlaw2.ShaTells", spec := "shaTells", apart := false, narrowed := true }
def ShaTellsUptoSaid : Prop := shaTellsUptoRow.holds Try.pinned (OpenSpec.upto shaTellsSpec)

/-- 'permafrostlaw9.BmapGlues', WHERE WHAT IT READS IS OF BULK AT MOST 1048576: true; the input reads as it did. -/
def bmapGluesUptoRow : OpenClaim := { program := "ytmjlndfkddacbaa", sum := "f431e3075eb0f6f71b1f1bd7bda11415d1edf1820b0a71b8b422a6cea2696cea", func := "permafrost/permafrostlaw9.BmapGlues", spec := "bmapGlues", unfollowed := true, recurses := true, apart := false, narrowed := true }
def BmapGluesUptoSaid : Prop := bmapGluesUptoRow.holds Try.pinned (OpenSpec.upto bmapGluesSpec)

end Rows
end Go.Proofs.Ytmjlndfkddacbaa
