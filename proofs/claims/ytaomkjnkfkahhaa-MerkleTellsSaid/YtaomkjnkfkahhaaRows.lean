/-
  No cell of these rows narrows 'for every input' (looked for: loops, veiled, ifaces, maps, wideKeys, modest, calm, conditions, laid).
  DERIVED. THE GIVEN ROWS OF THIS SEAT. 6 by the template 'for every input the law returns true; each argument reads behind the call as it read before'; 0 by the template 'total and deterministic' (their statements: YtaomkjnkfkahhaaTotals.lean).
  GIVEN WITH THE SEED: the statements are not yours to turn. If you find one false, say at which input.
  Laid BY PROGRAM, IN A SANDBOX (cutbox-rows.mjs): the forced cells as the released guide's own fill.sh prints them over the translation 2eeadafd676f78a6… (all of the seat's roots in one cut). By AI agents, Wed Nov 11 2026. No macro, syntax, notation, axiom, sorry.
-/
import Derived.Test.YtaomkjnkfkahhaaChecked
import GoSem.Claim
import GoSem.ClaimJoined
import GoSem.ClaimMapViews
import Derived.JoinedTies
import Derived.KernelRfl
namespace Go.Proofs.Ytaomkjnkfkahhaa
/- THE CELL 'sum', in the pinned program and in every row, IS THE sha256 OF THE DUMP (.gsa) THAT YtaomkjnkfkahhaaProg.lean LOADS. Nothing in Lean hashes anything: it is a label: what it is worth is what the hold of that sum in a sandbox is worth. -/
noncomputable def Try.pinned : Pinned := { name := "ytaomkjnkfkahhaa", sum := "2eeadafd676f78a62979075202326fefc33fd95bcdb31cba863377d7ab7f9c91", checked := Try.checked }
namespace Rows
def none {H : Type} : Left H := { results := [], args := [] }

/-- 'permafrostlaw6.MerkleSplit': WHATEVER THE INPUT: true; the input reads as it did. -/
def merkleSplitSpec : ChangeSpec := { name := "merkleSplit", fn := fun _ => fun
  | [d1, d2] => { results := [.lit (.bool true)], args := [d1, d2] }
  | _ => none }
def merkleSplitRow : OpenClaim := { program := "ytaomkjnkfkahhaa", sum := "2eeadafd676f78a62979075202326fefc33fd95bcdb31cba863377d7ab7f9c91", func := "permafrost/permafrostlaw6.MerkleSplit", spec := "merkleSplit", recurses := true, apart := false }
def MerkleSplitSaid : Prop := merkleSplitRow.holds Try.pinned (OpenSpec.ofChange merkleSplitSpec)

/-- ITS FALSE NEIGHBOUR: 'it returns false'. Refute it at one input. -/
def merkleSplitWrong : ChangeSpec := { name := "merkleSplit", fn := fun _ => fun
  | [d1, d2] => { results := [.lit (.bool false)], args := [d1, d2] }
  | _ => none }
def MerkleSplitWrongFalsely : Prop := merkleSplitRow.holds Try.pinned (OpenSpec.ofChange merkleSplitWrong)

/-- 'permafrostlaw6.MerklePlaces': WHATEVER THE INPUT: true; the input reads as it did. -/
def merklePlacesSpec : ChangeSpec := { name := "merklePlaces", fn := fun _ => fun
  | [d1, d2, d3] => { results := [.lit (.bool true)], args := [d1, d2, d3] }
  | _ => none }
def merklePlacesRow : OpenClaim := { program := "ytaomkjnkfkahhaa", sum := "2eeadafd676f78a62979075202326fefc33fd95bcdb31cba863377d7ab7f9c91", func := "permafrost/permafrostlaw6.MerklePlaces", spec := "merklePlaces", recurses := true, apart := false }
def MerklePlacesSaid : Prop := merklePlacesRow.holds Try.pinned (OpenSpec.ofChange merklePlacesSpec)

/-- ITS FALSE NEIGHBOUR: 'it returns false'. Refute it at one input. -/
def merklePlacesWrong : ChangeSpec := { name := "merklePlaces", fn := fun _ => fun
  | [d1, d2, d3] => { results := [.lit (.bool false)], args := [d1, d2, d3] }
  | _ => none }
def MerklePlacesWrongFalsely : Prop := merklePlacesRow.holds Try.pinned (OpenSpec.ofChange merklePlacesWrong)

/-- 'permafrostlaw6.MerkleNumbers': WHATEVER THE INPUT: true; the input reads as it did. -/
def merkleNumbersSpec : ChangeSpec := { name := "merkleNumbers", fn := fun _ => fun
  | [] => { results := [.lit (.bool true)], args := [] }
  | _ => none }
def merkleNumbersRow : OpenClaim := { program := "ytaomkjnkfkahhaa", sum := "2eeadafd676f78a62979075202326fefc33fd95bcdb31cba863377d7ab7f9c91", func := "permafrost/permafrostlaw6.MerkleNumbers", spec := "merkleNumbers", recurses := true, apart := false }
def MerkleNumbersSaid : Prop := merkleNumbersRow.holds Try.pinned (OpenSpec.ofChange merkleNumbersSpec)

/-- ITS FALSE NEIGHBOUR: 'it returns false'. Refute it at one input. -/
def merkleNumbersWrong : ChangeSpec := { name := "merkleNumbers", fn := fun _ => fun
  | [] => { results := [.lit (.bool false)], args := [] }
  | _ => none }
def MerkleNumbersWrongFalsely : Prop := merkleNumbersRow.holds Try.pinned (OpenSpec.ofChange merkleNumbersWrong)

/-- 'permafrostlaw6.MerkleTells': WHATEVER THE INPUT: true; the input reads as it did. -/
def merkleTellsSpec : ChangeSpec := { name := "merkleTells", fn := fun _ => fun
  | [d1, d2, d3, d4, d5, d6, d7] => { results := [.lit (.bool true)], args := [d1, d2, d3, d4, d5, d6, d7] }
  | _ => none }
def merkleTellsRow : OpenClaim := { program := "ytaomkjnkfkahhaa", sum := "2eeadafd676f78a62979075202326fefc33fd95bcdb31cba863377d7ab7f9c91", func := "permafrost/permafrostlaw6.MerkleTells", spec := "merkleTells", recurses := true, apart := false }
def MerkleTellsSaid : Prop := merkleTellsRow.holds Try.pinned (OpenSpec.ofChange merkleTellsSpec)

/-- ITS FALSE NEIGHBOUR: 'it returns false'. Refute it at one input. -/
def merkleTellsWrong : ChangeSpec := { name := "merkleTells", fn := fun _ => fun
  | [d1, d2, d3, d4, d5, d6, d7] => { results := [.lit (.bool false)], args := [d1, d2, d3, d4, d5, d6, d7] }
  | _ => none }
def MerkleTellsWrongFalsely : Prop := merkleTellsRow.holds Try.pinned (OpenSpec.ofChange merkleTellsWrong)

/-- 'permafrostlaw6.MerklePaths': WHATEVER THE INPUT: true; the input reads as it did. -/
def merklePathsSpec : ChangeSpec := { name := "merklePaths", fn := fun _ => fun
  | [d1, d2, d3] => { results := [.lit (.bool true)], args := [d1, d2, d3] }
  | _ => none }
def merklePathsRow : OpenClaim := { program := "ytaomkjnkfkahhaa", sum := "2eeadafd676f78a62979075202326fefc33fd95bcdb31cba863377d7ab7f9c91", func := "permafrost/permafrostlaw6.MerklePaths", spec := "merklePaths", recurses := true, apart := false }
def MerklePathsSaid : Prop := merklePathsRow.holds Try.pinned (OpenSpec.ofChange merklePathsSpec)

/-- ITS FALSE NEIGHBOUR: 'it returns false'. Refute it at one input. -/
def merklePathsWrong : ChangeSpec := { name := "merklePaths", fn := fun _ => fun
  | [d1, d2, d3] => { results := [.lit (.bool false)], args := [d1, d2, d3] }
  | _ => none }
def MerklePathsWrongFalsely : Prop := merklePathsRow.holds Try.pinned (OpenSpec.ofChange merklePathsWrong)

/-- 'permafrostlaw6.MerkleChain': WHATEVER THE INPUT: true; the input reads as it did. -/
def merkleChainSpec : ChangeSpec := { name := "merkleChain", fn := fun _ => fun
  | [d] => { results := [.lit (.bool true)], args := [d] }
  | _ => none }
def merkleChainRow : OpenClaim := { program := "ytaomkjnkfkahhaa", sum := "2eeadafd676f78a62979075202326fefc33fd95bcdb31cba863377d7ab7f9c91", func := "permafrost/permafrostlaw6.MerkleChain", spec := "merkleChain", recurses := true, apart := false }
def MerkleChainSaid : Prop := merkleChainRow.holds Try.pinned (OpenSpec.ofChange merkleChainSpec)

/-- ITS FALSE NEIGHBOUR: 'it returns false'. Refute it at one input. -/
def merkleChainWrong : ChangeSpec := { name := "merkleChain", fn := fun _ => fun
  | [d] => { results := [.lit (.bool false)], args := [d] }
  | _ => none }
def MerkleChainWrongFalsely : Prop := merkleChainRow.holds Try.pinned (OpenSpec.ofChange merkleChainWrong)

/- THE SECOND FORM. 'bulk': how many values and letters a reading holds, each counted each time it is reached (what is shared counts as often as it is met; a slice's spare places count too). A statement '..UptoSaid' is the law's where the arguments, and the package variables that the reading takes, are together of bulk at most 1048576: NARROWER than '..Said'. Prove '..Said' where nothing that the law and all that it calls make is longer than what came in: it says more and counts as full. Else prove '..UptoSaid'. A law counts once. -/
mutual
def uptoBulk {H : Type} : DataW H → Nat
  | .lit (.string bytes) => bytes.length + 1
  | .lit _ => 1
  | .nil => 1
  | .ptr d => uptoBulk d + 1
  | .slice elems spare => uptoBulkAll elems + uptoBulkAll spare + 1
  | .agg parts => uptoBulkAll parts + 1
  | .iface _ d => uptoBulk d + 1
  | .map entries => uptoBulkEntries entries + 1
  | .held _ => 1
def uptoBulkAll {H : Type} : List (DataW H) → Nat
  | [] => 0
  | d :: r => uptoBulk d + uptoBulkAll r
def uptoBulkEntries {H : Type} : List (Lit × DataW H) → Nat
  | [] => 0
  | x :: r => uptoBulkEntry x + uptoBulkEntries r
def uptoBulkEntry {H : Type} : Lit × DataW H → Nat
  | (.string bytes, d) => bytes.length + uptoBulk d + 1
  | (_, d) => uptoBulk d + 1
 end
def uptoSmall : (H : Type) → List (DataW H) → Bool := fun _ ds => decide (uptoBulkAll ds ≤ 1048576)
def OpenSpec.upto (s : _root_.Go.ChangeSpec) : _root_.Go.OpenSpec := { _root_.Go.OpenSpec.ofChange s with cond := some uptoSmall }

/-- 'permafrostlaw6.MerkleSplit', WHERE WHAT IT READS IS OF BULK AT MOST 1048576: true; the input reads as it did. -/
def merkleSplitUptoRow : OpenClaim := { program := "ytaomkjnkfkahhaa", sum := "2eeadafd676f78a62979075202326fefc33fd95bcdb31cba863377d7ab7f9c91", func := "permafrost/permafrostlaw6.MerkleSplit", spec := "merkleSplit", recurses := true, apart := false, narrowed := true }
def MerkleSplitUptoSaid : Prop := merkleSplitUptoRow.holds Try.pinned (OpenSpec.upto merkleSplitSpec)

/-- 'permafrostlaw6.MerklePlaces', WHERE WHAT IT READS IS OF BULK AT MOST 1048576: true; the input reads as it did. -/
def merklePlacesUptoRow : OpenClaim := { program := "ytaomkjnkfkahhaa", sum := "2eeadafd676f78a62979075202326fefc33fd95bcdb31cba863377d7ab7f9c91", func := "permafrost/permafrostlaw6.MerklePlaces", spec := "merklePlaces", recurses := true, apart := false, narrowed := true }
def MerklePlacesUptoSaid : Prop := merklePlacesUptoRow.holds Try.pinned (OpenSpec.upto merklePlacesSpec)

/-- 'permafrostlaw6.MerkleNumbers', WHERE WHAT IT READS IS OF BULK AT MOST 1048576: true; the input reads as it did. -/
def merkleNumbersUptoRow : OpenClaim := { program := "ytaomkjnkfkahhaa", sum := "2eeadafd676f78a62979075202326fefc33fd95bcdb31cba863377d7ab7f9c91", func := "permafrost/permafrostlaw6.MerkleNumbers", spec := "merkleNumbers", recurses := true, apart := false, narrowed := true }
def MerkleNumbersUptoSaid : Prop := merkleNumbersUptoRow.holds Try.pinned (OpenSpec.upto merkleNumbersSpec)

/-- 'permafrostlaw6.MerkleTells', WHERE WHAT IT READS IS OF BULK AT MOST 1048576: true; the input reads as it did. -/
def merkleTellsUptoRow : OpenClaim := { program := "ytaomkjnkfkahhaa", sum := "2eeadafd676f78a62979075202326fefc33fd95bcdb31cba863377d7ab7f9c91", func := "permafrost/permafrostlaw6.MerkleTells", spec := "merkleTells", recurses := true, apart := false, narrowed := true }
def MerkleTellsUptoSaid : Prop := merkleTellsUptoRow.holds Try.pinned (OpenSpec.upto merkleTellsSpec)

/-- 'permafrostlaw6.MerklePaths', WHERE WHAT IT READS IS OF BULK AT MOST 1048576: true; the input reads as it did. -/
def merklePathsUptoRow : OpenClaim := { program := "ytaomkjnkfkahhaa", sum := "2eeadafd676f78a62979075202326fefc33fd95bcdb31cba863377d7ab7f9c91", func := "permafrost/permafrostlaw6.MerklePaths", spec := "merklePaths", recurses := true, apart := false, narrowed := true }
def MerklePathsUptoSaid : Prop := merklePathsUptoRow.holds Try.pinned (OpenSpec.upto merklePathsSpec)

/-- 'permafrostlaw6.MerkleChain', WHERE WHAT IT READS IS OF BULK AT MOST 1048576: true; the input reads as it did. -/
def merkleChainUptoRow : OpenClaim := { program := "ytaomkjnkfkahhaa", sum := "2eeadafd676f78a62979075202326fefc33fd95bcdb31cba863377d7ab7f9c91", func := "permafrost/permafrostlaw6.MerkleChain", spec := "merkleChain", recurses := true, apart := false, narrowed := true }
def MerkleChainUptoSaid : Prop := merkleChainUptoRow.holds Try.pinned (OpenSpec.upto merkleChainSpec)

end Rows
end Go.Proofs.Ytaomkjnkfkahhaa
