/-
  No cell of these rows narrows 'for every input' (looked for: loops, veiled, ifaces, maps, wideKeys, modest, calm, conditions, laid).
  DERIVED. THE GIVEN ROWS OF THIS SEAT. 11 by the template 'for every input the law returns true; each argument reads behind the call as it read before'; 0 by the template 'total and deterministic' (their statements: YtlmhlcdpapfeoaaTotals.lean).
  GIVEN WITH THE SEED: the statements are not yours to turn. If you find one false, say at which input.
  Laid BY PROGRAM, IN A SANDBOX (cutbox-rows.mjs): the forced cells as the released guide's own fill.sh prints them over the translation bcaf0528d1d7bea9… (all of the seat's roots in one cut). By AI agents, Wed Nov 11 2026. No macro, syntax, notation, axiom, sorry.
-/
import Derived.Test.YtlmhlcdpapfeoaaChecked
import GoSem.Claim
import GoSem.ClaimJoined
import GoSem.ClaimMapViews
import Derived.JoinedTies
import Derived.KernelRfl
namespace Go.Proofs.Ytlmhlcdpapfeoaa
/- THE CELL 'sum', in the pinned program and in every row, IS THE sha256 OF THE DUMP (.gsa) THAT YtlmhlcdpapfeoaaProg.lean LOADS. Nothing in Lean hashes anything: it is a label: what it is worth is what the hold of that sum in a sandbox is worth. -/
noncomputable def Try.pinned : Pinned := { name := "ytlmhlcdpapfeoaa", sum := "bcaf0528d1d7bea9207f1088ff48d7157a72b0c251a57f7c95377396cefb9ad6", checked := Try.checked }
namespace Rows
def none {H : Type} : Left H := { results := [], args := [] }

/-- 'permafrostlaw19.LayoutGrows': WHATEVER THE INPUT: true; the input reads as it did. -/
def layoutGrowsSpec : ChangeSpec := { name := "layoutGrows", fn := fun _ => fun
  | [d1, d2] => { results := [.lit (.bool true)], args := [d1, d2] }
  | _ => none }
def layoutGrowsRow : OpenClaim := { program := "ytlmhlcdpapfeoaa", sum := "bcaf0528d1d7bea9207f1088ff48d7157a72b0c251a57f7c95377396cefb9ad6", func := "permafrost/permafrostlaw19.LayoutGrows", spec := "layoutGrows", apart := false }
def LayoutGrowsSaid : Prop := layoutGrowsRow.holds Try.pinned (OpenSpec.ofChange layoutGrowsSpec)

/-- ITS FALSE NEIGHBOUR: 'it returns false'. Refute it at one input. -/
def layoutGrowsWrong : ChangeSpec := { name := "layoutGrows", fn := fun _ => fun
  | [d1, d2] => { results := [.lit (.bool false)], args := [d1, d2] }
  | _ => none }
def LayoutGrowsWrongFalsely : Prop := layoutGrowsRow.holds Try.pinned (OpenSpec.ofChange layoutGrowsWrong)

/-- 'permafrostlaw3.CrcNumbers': WHATEVER THE INPUT: true; the input reads as it did. -/
def crcNumbersSpec : ChangeSpec := { name := "crcNumbers", fn := fun _ => fun
  | [] => { results := [.lit (.bool true)], args := [] }
  | _ => none }
def crcNumbersRow : OpenClaim := { program := "ytlmhlcdpapfeoaa", sum := "bcaf0528d1d7bea9207f1088ff48d7157a72b0c251a57f7c95377396cefb9ad6", func := "permafrost/permafrostlaw3.CrcNumbers", spec := "crcNumbers", apart := false }
def CrcNumbersSaid : Prop := crcNumbersRow.holds Try.pinned (OpenSpec.ofChange crcNumbersSpec)

/-- ITS FALSE NEIGHBOUR: 'it returns false'. Refute it at one input. -/
def crcNumbersWrong : ChangeSpec := { name := "crcNumbers", fn := fun _ => fun
  | [] => { results := [.lit (.bool false)], args := [] }
  | _ => none }
def CrcNumbersWrongFalsely : Prop := crcNumbersRow.holds Try.pinned (OpenSpec.ofChange crcNumbersWrong)

/-- 'permafrostlaw3.CrcTells': WHATEVER THE INPUT: true; the input reads as it did. -/
def crcTellsSpec : ChangeSpec := { name := "crcTells", fn := fun _ => fun
  | [d1, d2] => { results := [.lit (.bool true)], args := [d1, d2] }
  | _ => none }
def crcTellsRow : OpenClaim := { program := "ytlmhlcdpapfeoaa", sum := "bcaf0528d1d7bea9207f1088ff48d7157a72b0c251a57f7c95377396cefb9ad6", func := "permafrost/permafrostlaw3.CrcTells", spec := "crcTells", apart := false }
def CrcTellsSaid : Prop := crcTellsRow.holds Try.pinned (OpenSpec.ofChange crcTellsSpec)

/-- ITS FALSE NEIGHBOUR: 'it returns false'. Refute it at one input. -/
def crcTellsWrong : ChangeSpec := { name := "crcTells", fn := fun _ => fun
  | [d1, d2] => { results := [.lit (.bool false)], args := [d1, d2] }
  | _ => none }
def CrcTellsWrongFalsely : Prop := crcTellsRow.holds Try.pinned (OpenSpec.ofChange crcTellsWrong)

/-- 'permafrostlaw3.CrcTurned': WHATEVER THE INPUT: true; the input reads as it did. -/
def crcTurnedSpec : ChangeSpec := { name := "crcTurned", fn := fun _ => fun
  | [d1, d2, d3] => { results := [.lit (.bool true)], args := [d1, d2, d3] }
  | _ => none }
def crcTurnedRow : OpenClaim := { program := "ytlmhlcdpapfeoaa", sum := "bcaf0528d1d7bea9207f1088ff48d7157a72b0c251a57f7c95377396cefb9ad6", func := "permafrost/permafrostlaw3.CrcTurned", spec := "crcTurned", apart := false }
def CrcTurnedSaid : Prop := crcTurnedRow.holds Try.pinned (OpenSpec.ofChange crcTurnedSpec)

/-- ITS FALSE NEIGHBOUR: 'it returns false'. Refute it at one input. -/
def crcTurnedWrong : ChangeSpec := { name := "crcTurned", fn := fun _ => fun
  | [d1, d2, d3] => { results := [.lit (.bool false)], args := [d1, d2, d3] }
  | _ => none }
def CrcTurnedWrongFalsely : Prop := crcTurnedRow.holds Try.pinned (OpenSpec.ofChange crcTurnedWrong)

/-- 'permafrostlaw3.CrcLinear': WHATEVER THE INPUT: true; the input reads as it did. -/
def crcLinearSpec : ChangeSpec := { name := "crcLinear", fn := fun _ => fun
  | [d1, d2, d3, d4, d5] => { results := [.lit (.bool true)], args := [d1, d2, d3, d4, d5] }
  | _ => none }
def crcLinearRow : OpenClaim := { program := "ytlmhlcdpapfeoaa", sum := "bcaf0528d1d7bea9207f1088ff48d7157a72b0c251a57f7c95377396cefb9ad6", func := "permafrost/permafrostlaw3.CrcLinear", spec := "crcLinear", apart := false }
def CrcLinearSaid : Prop := crcLinearRow.holds Try.pinned (OpenSpec.ofChange crcLinearSpec)

/-- ITS FALSE NEIGHBOUR: 'it returns false'. Refute it at one input. -/
def crcLinearWrong : ChangeSpec := { name := "crcLinear", fn := fun _ => fun
  | [d1, d2, d3, d4, d5] => { results := [.lit (.bool false)], args := [d1, d2, d3, d4, d5] }
  | _ => none }
def CrcLinearWrongFalsely : Prop := crcLinearRow.holds Try.pinned (OpenSpec.ofChange crcLinearWrong)

/-- 'permafrostlaw19.LayoutApart': WHATEVER THE INPUT: true; the input reads as it did. -/
def layoutApartSpec : ChangeSpec := { name := "layoutApart", fn := fun _ => fun
  | [d] => { results := [.lit (.bool true)], args := [d] }
  | _ => none }
def layoutApartRow : OpenClaim := { program := "ytlmhlcdpapfeoaa", sum := "bcaf0528d1d7bea9207f1088ff48d7157a72b0c251a57f7c95377396cefb9ad6", func := "permafrost/permafrostlaw19.LayoutApart", spec := "layoutApart", apart := false }
def LayoutApartSaid : Prop := layoutApartRow.holds Try.pinned (OpenSpec.ofChange layoutApartSpec)

/-- ITS FALSE NEIGHBOUR: 'it returns false'. Refute it at one input. -/
def layoutApartWrong : ChangeSpec := { name := "layoutApart", fn := fun _ => fun
  | [d] => { results := [.lit (.bool false)], args := [d] }
  | _ => none }
def LayoutApartWrongFalsely : Prop := layoutApartRow.holds Try.pinned (OpenSpec.ofChange layoutApartWrong)

/-- 'permafrostlaw9.BmapGrows': WHATEVER THE INPUT: true; the input reads as it did. -/
def bmapGrowsSpec : ChangeSpec := { name := "bmapGrows", fn := fun _ => fun
  | [d] => { results := [.lit (.bool true)], args := [d] }
  | _ => none }
def bmapGrowsRow : OpenClaim := { program := "ytlmhlcdpapfeoaa", sum := "bcaf0528d1d7bea9207f1088ff48d7157a72b0c251a57f7c95377396cefb9ad6", func := "permafrost/permafrostlaw9.BmapGrows", spec := "bmapGrows", apart := false }
def BmapGrowsSaid : Prop := bmapGrowsRow.holds Try.pinned (OpenSpec.ofChange bmapGrowsSpec)

/-- ITS FALSE NEIGHBOUR: 'it returns false'. Refute it at one input. -/
def bmapGrowsWrong : ChangeSpec := { name := "bmapGrows", fn := fun _ => fun
  | [d] => { results := [.lit (.bool false)], args := [d] }
  | _ => none }
def BmapGrowsWrongFalsely : Prop := bmapGrowsRow.holds Try.pinned (OpenSpec.ofChange bmapGrowsWrong)

/-- 'permafrostlaw9.BmapOwn': WHATEVER THE INPUT: true; the input reads as it did. -/
def bmapOwnSpec : ChangeSpec := { name := "bmapOwn", fn := fun _ => fun
  | [d1, d2] => { results := [.lit (.bool true)], args := [d1, d2] }
  | _ => none }
def bmapOwnRow : OpenClaim := { program := "ytlmhlcdpapfeoaa", sum := "bcaf0528d1d7bea9207f1088ff48d7157a72b0c251a57f7c95377396cefb9ad6", func := "permafrost/permafrostlaw9.BmapOwn", spec := "bmapOwn", apart := false }
def BmapOwnSaid : Prop := bmapOwnRow.holds Try.pinned (OpenSpec.ofChange bmapOwnSpec)

/-- ITS FALSE NEIGHBOUR: 'it returns false'. Refute it at one input. -/
def bmapOwnWrong : ChangeSpec := { name := "bmapOwn", fn := fun _ => fun
  | [d1, d2] => { results := [.lit (.bool false)], args := [d1, d2] }
  | _ => none }
def BmapOwnWrongFalsely : Prop := bmapOwnRow.holds Try.pinned (OpenSpec.ofChange bmapOwnWrong)

/-- 'permafrostlaw9.BmapSizes': WHATEVER THE INPUT: true; the input reads as it did. -/
def bmapSizesSpec : ChangeSpec := { name := "bmapSizes", fn := fun _ => fun
  | [d] => { results := [.lit (.bool true)], args := [d] }
  | _ => none }
def bmapSizesRow : OpenClaim := { program := "ytlmhlcdpapfeoaa", sum := "bcaf0528d1d7bea9207f1088ff48d7157a72b0c251a57f7c95377396cefb9ad6", func := "permafrost/permafrostlaw9.BmapSizes", spec := "bmapSizes", apart := false }
def BmapSizesSaid : Prop := bmapSizesRow.holds Try.pinned (OpenSpec.ofChange bmapSizesSpec)

/-- ITS FALSE NEIGHBOUR: 'it returns false'. Refute it at one input. -/
def bmapSizesWrong : ChangeSpec := { name := "bmapSizes", fn := fun _ => fun
  | [d] => { results := [.lit (.bool false)], args := [d] }
  | _ => none }
def BmapSizesWrongFalsely : Prop := bmapSizesRow.holds Try.pinned (OpenSpec.ofChange bmapSizesWrong)

/-- 'permafrostlaw9.BmapNumbers': WHATEVER THE INPUT: true; the input reads as it did. -/
def bmapNumbersSpec : ChangeSpec := { name := "bmapNumbers", fn := fun _ => fun
  | [] => { results := [.lit (.bool true)], args := [] }
  | _ => none }
def bmapNumbersRow : OpenClaim := { program := "ytlmhlcdpapfeoaa", sum := "bcaf0528d1d7bea9207f1088ff48d7157a72b0c251a57f7c95377396cefb9ad6", func := "permafrost/permafrostlaw9.BmapNumbers", spec := "bmapNumbers", apart := false }
def BmapNumbersSaid : Prop := bmapNumbersRow.holds Try.pinned (OpenSpec.ofChange bmapNumbersSpec)

/-- ITS FALSE NEIGHBOUR: 'it returns false'. Refute it at one input. -/
def bmapNumbersWrong : ChangeSpec := { name := "bmapNumbers", fn := fun _ => fun
  | [] => { results := [.lit (.bool false)], args := [] }
  | _ => none }
def BmapNumbersWrongFalsely : Prop := bmapNumbersRow.holds Try.pinned (OpenSpec.ofChange bmapNumbersWrong)

/-- 'permafrostlaw9.BmapTells': WHATEVER THE INPUT: true; the input reads as it did. -/
def bmapTellsSpec : ChangeSpec := { name := "bmapTells", fn := fun _ => fun
  | [d1, d2, d3] => { results := [.lit (.bool true)], args := [d1, d2, d3] }
  | _ => none }
def bmapTellsRow : OpenClaim := { program := "ytlmhlcdpapfeoaa", sum := "bcaf0528d1d7bea9207f1088ff48d7157a72b0c251a57f7c95377396cefb9ad6", func := "permafrost/permafrostlaw9.BmapTells", spec := "bmapTells", apart := false }
def BmapTellsSaid : Prop := bmapTellsRow.holds Try.pinned (OpenSpec.ofChange bmapTellsSpec)

/-- ITS FALSE NEIGHBOUR: 'it returns false'. Refute it at one input. -/
def bmapTellsWrong : ChangeSpec := { name := "bmapTells", fn := fun _ => fun
  | [d1, d2, d3] => { results := [.lit (.bool false)], args := [d1, d2, d3] }
  | _ => none }
def BmapTellsWrongFalsely : Prop := bmapTellsRow.holds Try.pinned (OpenSpec.ofChange bmapTellsWrong)

/- THE SECOND FORM. 'bulk': how many values and letters a reading holds, each counted each time it is reached (what is shared counts as often as it is met; a slice's spare places count too). A statement '..UptoSaid' is the law's where the arguments, and the package variables that the reading takes, are together of bulk at most 1048576: NARROWER than '..Said'. Prove '..Said' where nothing that the law and all that it calls make is longer than what came in: it says more and counts as full. Else prove '..UptoSaid'. A law counts once. -/
mutual
def uptoBulk {H : Type} : DataW H → Nat
  | .lit (.string bytes) => bytes.length + 1
  | .lit _ => 1
  | .nil => 1
  | .ptr d => uptoBulk d + 1
  | .slice elems spare => uptoBulkAll elems + uptoBulkAll spare + 1
  | .agg parts => uptoBulkAll parts + 1
  | .iface _ d => uptoBulk d + 1
  | .map entries => uptoBulkEntries entries + 1
  | .held _ => 1
def uptoBulkAll {H : Type} : List (DataW H) → Nat
  | [] => 0
  | d :: r => uptoBulk d + uptoBulkAll r
def uptoBulkEntries {H : Type} : List (Lit × DataW H) → Nat
  | [] => 0
  | x :: r => uptoBulkEntry x + uptoBulkEntries r
def uptoBulkEntry {H : Type} : Lit × DataW H → Nat
  | (.string bytes, d) => bytes.length + uptoBulk d + 1
  | (_, d) => uptoBulk d + 1
 end
def uptoSmall : (H : Type) → List (DataW H) → Bool := fun _ ds => decide (uptoBulkAll ds ≤ 1048576)
def OpenSpec.upto (s : _root_.Go.ChangeSpec) : _root_.Go.OpenSpec := { _root_.Go.OpenSpec.ofChange s with cond := some uptoSmall }

/-- 'permafrostlaw19.LayoutGrows', WHERE WHAT IT READS IS OF BULK AT MOST 1048576: true; the input reads as it did. -/
def layoutGrowsUptoRow : OpenClaim := { program := "ytlmhlcdpapfeoaa", sum := "bcaf0528d1d7bea9207f1088ff48d7157a72b0c251a57f7c95377396cefb9ad6", func := "permafrost/permafrostlaw19.LayoutGrows", spec := "layoutGrows", apart := false, narrowed := true }
def LayoutGrowsUptoSaid : Prop := layoutGrowsUptoRow.holds Try.pinned (OpenSpec.upto layoutGrowsSpec)

/-- 'permafrostlaw3.CrcNumbers', WHERE WHAT IT READS IS OF BULK AT MOST 1048576: true; the input reads as it did. -/
def crcNumbersUptoRow : OpenClaim := { program := "ytlmhlcdpapfeoaa", sum := "bcaf0528d1d7bea9207f1088ff48d7157a72b0c251a57f7c95377396cefb9ad6", func := "permafrost/permafrostlaw3.CrcNumbers", spec := "crcNumbers", apart := false, narrowed := true }
def CrcNumbersUptoSaid : Prop := crcNumbersUptoRow.holds Try.pinned (OpenSpec.upto crcNumbersSpec)

/-- 'permafrostlaw3.CrcTells', WHERE WHAT IT READS IS OF BULK AT MOST 1048576: true; the input reads as it did. -/
def crcTellsUptoRow : OpenClaim := { program := "ytlmhlcdpapfeoaa", sum := "bcaf0528d1d7bea9207f1088ff48d7157a72b0c251a57f7c95377396cefb9ad6", func := "permafrost/permafrostlaw3.CrcTells", spec := "crcTells", apart := false, narrowed := true }
def CrcTellsUptoSaid : Prop := crcTellsUptoRow.holds Try.pinned (OpenSpec.upto crcTellsSpec)

/-- 'permafrostlaw3.CrcTurned', WHERE WHAT IT READS IS OF BULK AT MOST 1048576: true; the input reads as it did. -/
def crcTurnedUptoRow : OpenClaim := { program := "ytlmhlcdpapfeoaa", sum := "bcaf0528d1d7bea9207f1088ff48d7157a72b0c251a57f7c95377396cefb9ad6", func := "permafrost/permafrostlaw3.CrcTurned", spec := "crcTurned", apart := false, narrowed := true }
def CrcTurnedUptoSaid : Prop := crcTurnedUptoRow.holds Try.pinned (OpenSpec.upto crcTurnedSpec)

/-- 'permafrostlaw3.CrcLinear', WHERE WHAT IT READS IS OF BULK AT MOST 1048576: true; the input reads as it did. -/
def crcLinearUptoRow : OpenClaim := { program := "ytlmhlcdpapfeoaa", sum := "bcaf0528d1d7bea9207f1088ff48d7157a72b0c251a57f7c95377396cefb9ad6", func := "permafrost/permafrostlaw3.CrcLinear", spec := "crcLinear", apart := false, narrowed := true }
def CrcLinearUptoSaid : Prop := crcLinearUptoRow.holds Try.pinned (OpenSpec.upto crcLinearSpec)

/-- 'permafrostlaw19.LayoutApart', WHERE WHAT IT READS IS OF BULK AT MOST 1048576: true; the input reads as it did. -/
def layoutApartUptoRow : OpenClaim := { program := "ytlmhlcdpapfeoaa", sum := "bcaf0528d1d7bea9207f1088ff48d7157a72b0c251a57f7c95377396cefb9ad6", func := "permafrost/permafrostlaw19.LayoutApart", spec := "layoutApart", apart := false, narrowed := true }
def LayoutApartUptoSaid : Prop := layoutApartUptoRow.holds Try.pinned (OpenSpec.upto layoutApartSpec)

/-- 'permafrostlaw9.BmapGrows', WHERE WHAT IT READS IS OF BULK AT MOST 1048576: true; the input reads as it did. -/
def bmapGrowsUptoRow : OpenClaim := { program := "ytlmhlcdpapfeoaa", sum := "bcaf0528d1d7bea9207f1088ff48d7157a72b0c251a57f7c95377396cefb9ad6", func := "permafrost/permafrostlaw9.BmapGrows", spec := "bmapGrows", apart := false, narrowed := true }
def BmapGrowsUptoSaid : Prop := bmapGrowsUptoRow.holds Try.pinned (OpenSpec.upto bmapGrowsSpec)

/-- 'permafrostlaw9.BmapOwn', WHERE WHAT IT READS IS OF BULK AT MOST 1048576: true; the input reads as it did. -/
def bmapOwnUptoRow : OpenClaim := { program := "ytlmhlcdpapfeoaa", sum := "bcaf0528d1d7bea9207f1088ff48d7157a72b0c251a57f7c95377396cefb9ad6", func := "permafrost/permafrostlaw9.BmapOwn", spec := "bmapOwn", apart := false, narrowed := true }
def BmapOwnUptoSaid : Prop := bmapOwnUptoRow.holds Try.pinned (OpenSpec.upto bmapOwnSpec)

/-- 'permafrostlaw9.BmapSizes', WHERE WHAT IT READS IS OF BULK AT MOST 1048576: true; the input reads as it did. -/
def bmapSizesUptoRow : OpenClaim := { program := "ytlmhlcdpapfeoaa", sum := "bcaf0528d1d7bea9207f1088ff48d7157a72b0c251a57f7c95377396cefb9ad6", func := "permafrost/permafrostlaw9.BmapSizes", spec := "bmapSizes", apart := false, narrowed := true }
def BmapSizesUptoSaid : Prop := bmapSizesUptoRow.holds Try.pinned (OpenSpec.upto bmapSizesSpec)

/-- 'permafrostlaw9.BmapNumbers', WHERE WHAT IT READS IS OF BULK AT MOST 1048576: true; the input reads as it did. -/
def bmapNumbersUptoRow : OpenClaim := { program := "ytlmhlcdpapfeoaa", sum := "bcaf0528d1d7bea9207f1088ff48d7157a72b0c251a57f7c95377396cefb9ad6", func := "permafrost/permafrostlaw9.BmapNumbers", spec := "bmapNumbers", apart := false, narrowed := true }
def BmapNumbersUptoSaid : Prop := bmapNumbersUptoRow.holds Try.pinned (OpenSpec.upto bmapNumbersSpec)

/-- 'permafrostlaw9.BmapTells', WHERE WHAT IT READS IS OF BULK AT MOST 1048576: true; the input reads as it did. -/
def bmapTellsUptoRow : OpenClaim := { program := "ytlmhlcdpapfeoaa", sum := "bcaf0528d1d7bea9207f1088ff48d7157a72b0c251a57f7c95377396cefb9ad6", func := "permafrost/permafrostlaw9.BmapTells", spec := "bmapTells", apart := false, narrowed := true }
def BmapTellsUptoSaid : Prop := bmapTellsUptoRow.holds Try.pinned (OpenSpec.upto bmapTellsSpec)

end Rows
end Go.Proofs.Ytlmhlcdpapfeoaa
