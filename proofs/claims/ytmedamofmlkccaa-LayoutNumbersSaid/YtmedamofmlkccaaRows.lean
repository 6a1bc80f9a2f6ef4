/-
  No cell of these rows narrows 'for every input' (looked for: loops, veiled, ifaces, maps, wideKeys, modest, calm, conditions, laid).
  DERIVED. THE GIVEN ROWS OF THIS SEAT. 12 by the template 'for every input the law returns true; each argument reads behind the call as it read before'; 0 by the template 'total and deterministic' (their statements: YtmedamofmlkccaaTotals.lean).
  GIVEN WITH THE SEED: the statements are not yours to turn. If you find one false, say at which input.
  Laid BY PROGRAM, IN A SANDBOX (cutbox-rows.mjs): the forced cells as the released guide's own fill.sh prints them over the translation eac68ea1eeaed57c… (all of the seat's roots in one cut). By AI agents, Wed Nov 11 2026. No macro, syntax, notation, axiom, sorry.
-/
import Derived.Test.YtmedamofmlkccaaChecked
import GoSem.Claim
import GoSem.ClaimJoined
import GoSem.ClaimMapViews
import Derived.JoinedTies
import Derived.KernelRfl
namespace Go.Proofs.Ytmedamofmlkccaa
/- THE CELL 'sum', in the pinned program and in every row, IS THE sha256 OF THE DUMP (.gsa) THAT YtmedamofmlkccaaProg.lean LOADS. Nothing in Lean hashes anything: it is a label: what it is worth is what the hold of that sum in a sandbox is worth. -/
noncomputable def Try.pinned : Pinned := { name := "ytmedamofmlkccaa", sum := "eac68ea1eeaed57c876913dc4c6b07dc5849104720bd041548e02b845284b103", checked := Try.checked }
namespace Rows
def none {H : Type} : Left H := { results := [], args := [] }

/-- 'permafrostlaw4.CodecFlags': WHATEVER THE INPUT: true; the input reads as it did. -/
def codecFlagsSpec : ChangeSpec := { name := "codecFlags", fn := fun _ => fun
  | [d1, d2, d3] => { results := [.lit (.bool true)], args := [d1, d2, d3] }
  | _ => none }
def codecFlagsRow : OpenClaim := { program := "ytmedamofmlkccaa", sum := "eac68ea1eeaed57c876913dc4c6b07dc5849104720bd041548e02b845284b103", func := "permafrost/permafrostlaw4.CodecFlags", spec := "codecFlags", apart := false }
def CodecFlagsSaid : Prop := codecFlagsRow.holds Try.pinned (OpenSpec.ofChange codecFlagsSpec)

/-- ITS FALSE NEIGHBOUR: 'it returns false'. Refute it at one input. -/
def codecFlagsWrong : ChangeSpec := { name := "codecFlags", fn := fun _ => fun
  | [d1, d2, d3] => { results := [.lit (.bool false)], args := [d1, d2, d3] }
  | _ => none }
def CodecFlagsWrongFalsely : Prop := codecFlagsRow.holds Try.pinned (OpenSpec.ofChange codecFlagsWrong)

/-- 'permafrostlaw4.CodecCuts': WHATEVER THE INPUT: true; the input reads as it did. -/
def codecCutsSpec : ChangeSpec := { name := "codecCuts", fn := fun _ => fun
  | [d1, d2, d3] => { results := [.lit (.bool true)], args := [d1, d2, d3] }
  | _ => none }
def codecCutsRow : OpenClaim := { program := "ytmedamofmlkccaa", sum := "eac68ea1eeaed57c876913dc4c6b07dc5849104720bd041548e02b845284b103", func := "permafrost/permafrostlaw4.CodecCuts", spec := "codecCuts", apart := false }
def CodecCutsSaid : Prop := codecCutsRow.holds Try.pinned (OpenSpec.ofChange codecCutsSpec)

/-- ITS FALSE NEIGHBOUR: 'it returns false'. Refute it at one input. -/
def codecCutsWrong : ChangeSpec := { name := "codecCuts", fn := fun _ => fun
  | [d1, d2, d3] => { results := [.lit (.bool false)], args := [d1, d2, d3] }
  | _ => none }
def CodecCutsWrongFalsely : Prop := codecCutsRow.holds Try.pinned (OpenSpec.ofChange codecCutsWrong)

/-- 'permafrostlaw4.CodecNumbers': WHATEVER THE INPUT: true; the input reads as it did. -/
def codecNumbersSpec : ChangeSpec := { name := "codecNumbers", fn := fun _ => fun
  | [] => { results := [.lit (.bool true)], args := [] }
  | _ => none }
def codecNumbersRow : OpenClaim := { program := "ytmedamofmlkccaa", sum := "eac68ea1eeaed57c876913dc4c6b07dc5849104720bd041548e02b845284b103", func := "permafrost/permafrostlaw4.CodecNumbers", spec := "codecNumbers", apart := false }
def CodecNumbersSaid : Prop := codecNumbersRow.holds Try.pinned (OpenSpec.ofChange codecNumbersSpec)

/-- ITS FALSE NEIGHBOUR: 'it returns false'. Refute it at one input. -/
def codecNumbersWrong : ChangeSpec := { name := "codecNumbers", fn := fun _ => fun
  | [] => { results := [.lit (.bool false)], args := [] }
  | _ => none }
def CodecNumbersWrongFalsely : Prop := codecNumbersRow.holds Try.pinned (OpenSpec.ofChange codecNumbersWrong)

/-- 'permafrostlaw4.CodecTells': WHATEVER THE INPUT: true; the input reads as it did. -/
def codecTellsSpec : ChangeSpec := { name := "codecTells", fn := fun _ => fun
  | [d1, d2, d3, d4, d5] => { results := [.lit (.bool true)], args := [d1, d2, d3, d4, d5] }
  | _ => none }
def codecTellsRow : OpenClaim := { program := "ytmedamofmlkccaa", sum := "eac68ea1eeaed57c876913dc4c6b07dc5849104720bd041548e02b845284b103", func := "permafrost/permafrostlaw4.CodecTells", spec := "codecTells", apart := false }
def CodecTellsSaid : Prop := codecTellsRow.holds Try.pinned (OpenSpec.ofChange codecTellsSpec)

/-- ITS FALSE NEIGHBOUR: 'it returns false'. Refute it at one input. -/
def codecTellsWrong : ChangeSpec := { name := "codecTells", fn := fun _ => fun
  | [d1, d2, d3, d4, d5] => { results := [.lit (.bool false)], args := [d1, d2, d3, d4, d5] }
  | _ => none }
def CodecTellsWrongFalsely : Prop := codecTellsRow.holds Try.pinned (OpenSpec.ofChange codecTellsWrong)

/-- 'permafrostlaw4.CodecBack': WHATEVER THE INPUT: true; the input reads as it did. -/
def codecBackSpec : ChangeSpec := { name := "codecBack", fn := fun _ => fun
  | [d] => { results := [.lit (.bool true)], args := [d] }
  | _ => none }
def codecBackRow : OpenClaim := { program := "ytmedamofmlkccaa", sum := "eac68ea1eeaed57c876913dc4c6b07dc5849104720bd041548e02b845284b103", func := "permafrost/permafrostlaw4.CodecBack", spec := "codecBack", apart := false }
def CodecBackSaid : Prop := codecBackRow.holds Try.pinned (OpenSpec.ofChange codecBackSpec)

/-- ITS FALSE NEIGHBOUR: 'it returns false'. Refute it at one input. -/
def codecBackWrong : ChangeSpec := { name := "codecBack", fn := fun _ => fun
  | [d] => { results := [.lit (.bool false)], args := [d] }
  | _ => none }
def CodecBackWrongFalsely : Prop := codecBackRow.holds Try.pinned (OpenSpec.ofChange codecBackWrong)

/-- 'permafrostlaw10.NodeNumbers': WHATEVER THE INPUT: true; the input reads as it did. -/
def nodeNumbersSpec : ChangeSpec := { name := "nodeNumbers", fn := fun _ => fun
  | [] => { results := [.lit (.bool true)], args := [] }
  | _ => none }
def nodeNumbersRow : OpenClaim := { program := "ytmedamofmlkccaa", sum := "eac68ea1eeaed57c876913dc4c6b07dc5849104720bd041548e02b845284b103", func := "permafrost/permafrostlaw10.NodeNumbers", spec := "nodeNumbers", apart := false }
def NodeNumbersSaid : Prop := nodeNumbersRow.holds Try.pinned (OpenSpec.ofChange nodeNumbersSpec)

/-- ITS FALSE NEIGHBOUR: 'it returns false'. Refute it at one input. -/
def nodeNumbersWrong : ChangeSpec := { name := "nodeNumbers", fn := fun _ => fun
  | [] => { results := [.lit (.bool false)], args := [] }
  | _ => none }
def NodeNumbersWrongFalsely : Prop := nodeNumbersRow.holds Try.pinned (OpenSpec.ofChange nodeNumbersWrong)

/-- 'permafrostlaw10.NodeTells': WHATEVER THE INPUT: true; the input reads as it did. -/
def nodeTellsSpec : ChangeSpec := { name := "nodeTells", fn := fun _ => fun
  | [d1, d2, d3, d4] => { results := [.lit (.bool true)], args := [d1, d2, d3, d4] }
  | _ => none }
def nodeTellsRow : OpenClaim := { program := "ytmedamofmlkccaa", sum := "eac68ea1eeaed57c876913dc4c6b07dc5849104720bd041548e02b845284b103", func := "permafrost/permafrostlaw10.NodeTells", spec := "nodeTells", apart := false }
def NodeTellsSaid : Prop := nodeTellsRow.holds Try.pinned (OpenSpec.ofChange nodeTellsSpec)

/-- ITS FALSE NEIGHBOUR: 'it returns false'. Refute it at one input. -/
def nodeTellsWrong : ChangeSpec := { name := "nodeTells", fn := fun _ => fun
  | [d1, d2, d3, d4] => { results := [.lit (.bool false)], args := [d1, d2, d3, d4] }
  | _ => none }
def NodeTellsWrongFalsely : Prop := nodeTellsRow.holds Try.pinned (OpenSpec.ofChange nodeTellsWrong)

/-- 'permafrostlaw10.NodeBack': WHATEVER THE INPUT: true; the input reads as it did. -/
def nodeBackSpec : ChangeSpec := { name := "nodeBack", fn := fun _ => fun
  | [d1, d2, d3] => { results := [.lit (.bool true)], args := [d1, d2, d3] }
  | _ => none }
def nodeBackRow : OpenClaim := { program := "ytmedamofmlkccaa", sum := "eac68ea1eeaed57c876913dc4c6b07dc5849104720bd041548e02b845284b103", func := "permafrost/permafrostlaw10.NodeBack", spec := "nodeBack", apart := false }
def NodeBackSaid : Prop := nodeBackRow.holds Try.pinned (OpenSpec.ofChange nodeBackSpec)

/-- ITS FALSE NEIGHBOUR: 'it returns false'. Refute it at one input. -/
def nodeBackWrong : ChangeSpec := { name := "nodeBack", fn := fun _ => fun
  | [d1, d2, d3] => { results := [.lit (.bool false)], args := [d1, d2, d3] }
  | _ => none }
def NodeBackWrongFalsely : Prop := nodeBackRow.holds Try.pinned (OpenSpec.ofChange nodeBackWrong)

/-- 'permafrostlaw10.NodeFields': WHATEVER THE INPUT: true; the input reads as it did. -/
def nodeFieldsSpec : ChangeSpec := { name := "nodeFields", fn := fun _ => fun
  | [d1, d2, d3] => { results := [.lit (.bool true)], args := [d1, d2, d3] }
  | _ => none }
def nodeFieldsRow : OpenClaim := { program := "ytmedamofmlkccaa", sum := "eac68ea1eeaed57c876913dc4c6b07dc5849104720bd041548e02b845284b103", func := "permafrost/permafrostlaw10.NodeFields", spec := "nodeFields", apart := false }
def NodeFieldsSaid : Prop := nodeFieldsRow.holds Try.pinned (OpenSpec.ofChange nodeFieldsSpec)

/-- ITS FALSE NEIGHBOUR: 'it returns false'. Refute it at one input. -/
def nodeFieldsWrong : ChangeSpec := { name := "nodeFields", fn := fun _ => fun
  | [d1, d2, d3] => { results := [.lit (.bool false)], args := [d1, d2, d3] }
  | _ => none }
def NodeFieldsWrongFalsely : Prop := nodeFieldsRow.holds Try.pinned (OpenSpec.ofChange nodeFieldsWrong)

/-- 'permafrostlaw19.LayoutBack': WHATEVER THE INPUT: true; the input reads as it did. -/
def layoutBackSpec : ChangeSpec := { name := "layoutBack", fn := fun _ => fun
  | [d1, d2, d3, d4] => { results := [.lit (.bool true)], args := [d1, d2, d3, d4] }
  | _ => none }
def layoutBackRow : OpenClaim := { program := "ytmedamofmlkccaa", sum := "eac68ea1eeaed57c876913dc4c6b07dc5849104720bd041548e02b845284b103", func := "permafrost/permafrostlaw19.LayoutBack", spec := "layoutBack", apart := false }
def LayoutBackSaid : Prop := layoutBackRow.holds Try.pinned (OpenSpec.ofChange layoutBackSpec)

/-- ITS FALSE NEIGHBOUR: 'it returns false'. Refute it at one input. -/
def layoutBackWrong : ChangeSpec := { name := "layoutBack", fn := fun _ => fun
  | [d1, d2, d3, d4] => { results := [.lit (.bool false)], args := [d1, d2, d3, d4] }
  | _ => none }
def LayoutBackWrongFalsely : Prop := layoutBackRow.holds Try.pinned (OpenSpec.ofChange layoutBackWrong)

/-- 'permafrostlaw19.LayoutNumbers': WHATEVER THE INPUT: true; the input reads as it did. -/
def layoutNumbersSpec : ChangeSpec := { name := "layoutNumbers", fn := fun _ => fun
  | [] => { results := [.lit (.bool true)], args := [] }
  | _ => none }
def layoutNumbersRow : OpenClaim := { program := "ytmedamofmlkccaa", sum := "eac68ea1eeaed57c876913dc4c6b07dc5849104720bd041548e02b845284b103", func := "permafrost/permafrostlaw19.LayoutNumbers", spec := "layoutNumbers", apart := false }
def LayoutNumbersSaid : Prop := layoutNumbersRow.holds Try.pinned (OpenSpec.ofChange layoutNumbersSpec)

/-- ITS FALSE NEIGHBOUR: 'it returns false'. Refute it at one input. -/
def layoutNumbersWrong : ChangeSpec := { name := "layoutNumbers", fn := fun _ => fun
  | [] => { results := [.lit (.bool false)], args := [] }
  | _ => none }
def LayoutNumbersWrongFalsely : Prop := layoutNumbersRow.holds Try.pinned (OpenSpec.ofChange layoutNumbersWrong)

/-- 'permafrostlaw19.LayoutTells': WHATEVER THE INPUT: true; the input reads as it did. -/
def layoutTellsSpec : ChangeSpec := { name := "layoutTells", fn := fun _ => fun
  | [d1, d2, d3, d4, d5, d6] => { results := [.lit (.bool true)], args := [d1, d2, d3, d4, d5, d6] }
  | _ => none }
def layoutTellsRow : OpenClaim := { program := "ytmedamofmlkccaa", sum := "eac68ea1eeaed57c876913dc4c6b07dc5849104720bd041548e02b845284b103", func := "permafrost/permafrostlaw19.LayoutTells", spec := "layoutTells", apart := false }
def LayoutTellsSaid : Prop := layoutTellsRow.holds Try.pinned (OpenSpec.ofChange layoutTellsSpec)

/-- ITS FALSE NEIGHBOUR: 'it returns false'. Refute it at one input. -/
def layoutTellsWrong : ChangeSpec := { name := "layoutTells", fn := fun _ => fun
  | [d1, d2, d3, d4, d5, d6] => { results := [.lit (.bool false)], args := [d1, d2, d3, d4, d5, d6] }
  | _ => none }
def LayoutTellsWrongFalsely : Prop := layoutTellsRow.holds Try.pinned (OpenSpec.ofChange layoutTellsWrong)

/- THE SECOND FORM. 'bulk': how many values and letters a reading holds, each counted each time it is reached (what is shared counts as often as it is met; a slice's spare places count too). A statement '..UptoSaid' is the law's where the arguments, and the package variables that the reading takes, are together of bulk at most 1048576: NARROWER than '..Said'. Prove '..Said' where nothing that the law and all that it calls make is longer than what came in: it says more and counts as full. Else prove '..UptoSaid'. A law counts once. -/
mutual
def uptoBulk {H : Type} : DataW H → Nat
  | .lit (.string bytes) => bytes.length + 1
  | .lit _ => 1
  | .nil => 1
  | .ptr d => uptoBulk d + 1
  | .slice elems spare => uptoBulkAll elems + uptoBulkAll spare + 1
  | .agg parts => uptoBulkAll parts + 1
  | .iface _ d => uptoBulk d + 1
  | .map entries => uptoBulkEntries entries + 1
  | .held _ => 1
def uptoBulkAll {H : Type} : List (DataW H) → Nat
  | [] => 0
  | d :: r => uptoBulk d + uptoBulkAll r
def uptoBulkEntries {H : Type} : List (Lit × DataW H) → Nat
  | [] => 0
  | x :: r => uptoBulkEntry x + uptoBulkEntries r
def uptoBulkEntry {H : Type} : Lit × DataW H → Nat
  | (.string bytes, d) => bytes.length + uptoBulk d + 1
  | (_, d) => uptoBulk d + 1
 end
def uptoSmall : (H : Type) → List (DataW H) → Bool := fun _ ds => decide (uptoBulkAll ds ≤ 1048576)
def OpenSpec.upto (s : _root_.Go.ChangeSpec) : _root_.Go.OpenSpec := { _root_.Go.OpenSpec.ofChange s with cond := some uptoSmall }

/-- 'permafrostlaw4.CodecFlags', WHERE WHAT IT READS IS OF BULK AT MOST 1048576: true; the input reads as it did. -/
def codecFlagsUptoRow : OpenClaim := { program := "ytmedamofmlkccaa", sum := "eac68ea1eeaed57c876913dc4c6b07dc5849104720bd041548e02b845284b103", func := "permafrost/permafrostlaw4.CodecFlags", spec := "codecFlags", apart := false, narrowed := true }
def CodecFlagsUptoSaid : Prop := codecFlagsUptoRow.holds Try.pinned (OpenSpec.upto codecFlagsSpec)

/-- 'permafrostlaw4.CodecCuts', WHERE WHAT IT READS IS OF BULK AT MOST 1048576: true; the input reads as it did. -/
def codecCutsUptoRow : OpenClaim := { program := "ytmedamofmlkccaa", sum := "eac68ea1eeaed57c876913dc4c6b07dc5849104720bd041548e02b845284b103", func := "permafrost/permafrostlaw4.CodecCuts", spec := "codecCuts", apart := false, narrowed := true }
def CodecCutsUptoSaid : Prop := codecCutsUptoRow.holds Try.pinned (OpenSpec.upto codecCutsSpec)

/-- 'permafrostlaw4.CodecNumbers', WHERE WHAT IT READS IS OF BULK AT MOST 1048576: true; the input reads as it did. -/
def codecNumbersUptoRow : OpenClaim := { program := "ytmedamofmlkccaa", sum := "eac68ea1eeaed57c876913dc4c6b07dc5849104720bd041548e02b845284b103", func := "permafrost/permafrostlaw4.CodecNumbers", spec := "codecNumbers", apart := false, narrowed := true }
def CodecNumbersUptoSaid : Prop := codecNumbersUptoRow.holds Try.pinned (OpenSpec.upto codecNumbersSpec)

/-- 'permafrostlaw4.CodecTells', WHERE WHAT IT READS IS OF BULK AT MOST 1048576: true; the input reads as it did. -/
def codecTellsUptoRow : OpenClaim := { program := "ytmedamofmlkccaa", sum := "eac68ea1eeaed57c876913dc4c6b07dc5849104720bd041548e02b845284b103", func := "permafrost/permafrostlaw4.CodecTells", spec := "codecTells", apart := false, narrowed := true }
def CodecTellsUptoSaid : Prop := codecTellsUptoRow.holds Try.pinned (OpenSpec.upto codecTellsSpec)

/-- 'permafrostlaw4.CodecBack', WHERE WHAT IT READS IS OF BULK AT MOST 1048576: true; the input reads as it did. -/
def codecBackUptoRow : OpenClaim := { program := "ytmedamofmlkccaa", sum := "eac68ea1eeaed57c876913dc4c6b07dc5849104720bd041548e02b845284b103", func := "permafrost/permafrostlaw4.CodecBack", spec := "codecBack", apart := false, narrowed := true }
def CodecBackUptoSaid : Prop := codecBackUptoRow.holds Try.pinned (OpenSpec.upto codecBackSpec)

/-- 'permafrostlaw10.NodeNumbers', WHERE WHAT IT READS IS OF BULK AT MOST 1048576: true; the input reads as it did. -/
def nodeNumbersUptoRow : OpenClaim := { program := "ytmedamofmlkccaa", sum := "eac68ea1eeaed57c876913dc4c6b07dc5849104720bd041548e02b845284b103", func := "permafrost/permafrostlaw10.NodeNumbers", spec := "nodeNumbers", apart := false, narrowed := true }
def NodeNumbersUptoSaid : Prop := nodeNumbersUptoRow.holds Try.pinned (OpenSpec.upto nodeNumbersSpec)

/-- 'permafrostlaw10.NodeTells', WHERE WHAT IT READS IS OF BULK AT MOST 1048576: true; the input reads as it did. -/
def nodeTellsUptoRow : OpenClaim := { program := "ytmedamofmlkccaa", sum := "eac68ea1eeaed57c876913dc4c6b07dc5849104720bd041548e02b845284b103", func := "permafrost/permafrostlaw10.NodeTells", spec := "nodeTells", apart := false, narrowed := true }
def NodeTellsUptoSaid : Prop := nodeTellsUptoRow.holds Try.pinned (OpenSpec.upto nodeTellsSpec)

/-- 'permafrostlaw10.NodeBack', WHERE WHAT IT READS IS OF BULK AT MOST 1048576: true; the input reads as it did. -/
def nodeBackUptoRow : OpenClaim := { program := "ytmedamofmlkccaa", sum := "eac68ea1eeaed57c876913dc4c6b07dc5849104720bd041548e02b845284b103", func := "permafrost/permafrostlaw10.NodeBack", spec := "nodeBack", apart := false, narrowed := true }
def NodeBackUptoSaid : Prop := nodeBackUptoRow.holds Try.pinned (OpenSpec.upto nodeBackSpec)

/-- 'permafrostlaw10.NodeFields', WHERE WHAT IT READS IS OF BULK AT MOST 1048576: true; the input reads as it did. -/
def nodeFieldsUptoRow : OpenClaim := { program := "ytmedamofmlkccaa", sum := "eac68ea1eeaed57c876913dc4c6b07dc5849104720bd041548e02b845284b103", func := "permafrost/permafrostlaw10.NodeFields", spec := "nodeFields", apart := false, narrowed := true }
def NodeFieldsUptoSaid : Prop := nodeFieldsUptoRow.holds Try.pinned (OpenSpec.upto nodeFieldsSpec)

/-- 'permafrostlaw19.LayoutBack', WHERE WHAT IT READS IS OF BULK AT MOST 1048576: true; the input reads as it did. -/
def layoutBackUptoRow : OpenClaim := { program := "ytmedamofmlkccaa", sum := "eac68ea1eeaed57c876913dc4c6b07dc5849104720bd041548e02b845284b103", func := "permafrost/permafrostlaw19.LayoutBack", spec := "layoutBack", apart := false, narrowed := true }
def LayoutBackUptoSaid : Prop := layoutBackUptoRow.holds Try.pinned (OpenSpec.upto layoutBackSpec)

/-- 'permafrostlaw19.LayoutNumbers', WHERE WHAT IT READS IS OF BULK AT MOST 1048576: true; the input reads as it did. -/
def layoutNumbersUptoRow : OpenClaim := { program := "ytmedamofmlkccaa", sum := "eac68ea1eeaed57c876913dc4c6b07dc5849104720bd041548e02b845284b103", func := "permafrost/permafrostlaw19.LayoutNumbers", spec := "layoutNumbers", apart := false, narrowed := true }
def LayoutNumbersUptoSaid : Prop := layoutNumbersUptoRow.holds Try.pinned (OpenSpec.upto layoutNumbersSpec)

/-- 'permafrostlaw19.LayoutTells', WHERE WHAT IT READS IS OF BULK AT MOST 1048576: true; the input reads as it did. -/
def layoutTellsUptoRow : OpenClaim := { program := "ytmedamofmlkccaa", sum := "eac68ea1eeaed57c876913dc4c6b07dc5849104720bd041548e02b845284b103", func := "permafrost/permafrostlaw19.LayoutTells", spec := "layoutTells", apart := false, narrowed := true }
def LayoutTellsUptoSaid : Prop := layoutTellsUptoRow.holds Try.pinned (OpenSpec.upto layoutTellsSpec)

end Rows
end Go.Proofs.Ytmedamofmlkccaa
