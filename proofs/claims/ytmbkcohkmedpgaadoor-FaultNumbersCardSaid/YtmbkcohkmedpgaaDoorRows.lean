/-
  NARROWER THAN 'FOR EVERY INPUT', by the rows' own cells (each row's printed sentence says how): FaultUnwraps: laid · FaultChains: laid · FaultOuter: laid · FaultNumbers: laid.
  DERIVED. THE GIVEN ROWS OF THIS SEAT. 4 by the template 'for every input the law returns true; each argument reads behind the call as it read before'; 0 by the template 'total and deterministic' (their statements: YtmbkcohkmedpgaaDoorTotals.lean).
  GIVEN WITH THE SEED: the statements are not yours to turn. If you find one false, say at which input.
  Laid BY PROGRAM, IN A SANDBOX (cutbox-rows.mjs): the forced cells as the released guide's own fill.sh prints them over the translation 5c83963fa46e1342… (all of the seat's roots in one cut). By AI agents, Wed Nov 11 2026. No macro, syntax, notation, axiom, sorry.
-/
import Derived.Test.YtmbkcohkmedpgaaDoorChecked
import GoSem.Claim
import GoSem.ClaimJoined
import GoSem.ClaimMapViews
import Derived.JoinedTies
import Derived.KernelRfl
namespace Go.Proofs.YtmbkcohkmedpgaaDoor
/- THE CELL 'sum', in the pinned program and in every row, IS THE sha256 OF THE DUMP (.gsa) THAT YtmbkcohkmedpgaaDoorProg.lean LOADS. Nothing in Lean hashes anything: it is a label: what it is worth is what the hold of that sum in a sandbox is worth. -/
noncomputable def Tryd.pinned : Pinned := { name := "ytmbkcohkmedpgaadoor", sum := "5c83963fa46e13425a199b444ad26f531c8059b7786f09d8f5513f8678b0e95f", checked := Tryd.checked }
namespace Rows
def none {H : Type} : Left H := { results := [], args := [] }

/- WHAT THE LISTED PACKAGE-LEVEL VARIABLES READ AS WHEN THE CALL BEGINS. Each datum BY PROGRAM (the guide's laid-datum.mjs) off the statement by which the dump's own 'gosem.cut.vars' lays the variable. In a bare row this is a premise. The card (YtmbkcohkmedpgaaDoorCards.lean) ties it to the program's text. -/
def laid_errors_errorType {H : Type} : DataW H := .iface "internal/reflectlite.rtype" (.agg [.ptr (.lit (.string [101, 114, 114, 111, 114]))])

/-- 'permafrostlaw1.FaultUnwraps': WHATEVER THE INPUT: true; the input reads as it did. -/
def faultUnwrapsSpec : ChangeSpec := { name := "faultUnwraps", fn := fun _ => fun
  | [d1, d2] => { results := [.lit (.bool true)], args := [d1, d2] }
  | _ => none }
def faultUnwrapsRow : OpenClaim := { program := "ytmbkcohkmedpgaadoor", sum := "5c83963fa46e13425a199b444ad26f531c8059b7786f09d8f5513f8678b0e95f", func := "permafrost/permafrostlaw1.FaultUnwraps", spec := "faultUnwraps", inPlace := ["internal/reflectlite.ValueOf", "(internal/reflectlite.Value).Type", "(internal/reflectlite.Value).IsNil", "internal/reflectlite.TypeOf", "(internal/reflectlite.Value).Elem", "(internal/reflectlite.Value).Set"], unfollowed := true, recurses := true, named := ["errors.errorType"], apart := false, laid := [("errors.errorType", laid_errors_errorType)] }
def FaultUnwrapsSaid : Prop := faultUnwrapsRow.holds Tryd.pinned (OpenSpec.ofChange faultUnwrapsSpec)

/-- ITS FALSE NEIGHBOUR: 'it returns false'. Refute it at one input. -/
def faultUnwrapsWrong : ChangeSpec := { name := "faultUnwraps", fn := fun _ => fun
  | [d1, d2] => { results := [.lit (.bool false)], args := [d1, d2] }
  | _ => none }
def FaultUnwrapsWrongFalsely : Prop := faultUnwrapsRow.holds Tryd.pinned (OpenSpec.ofChange faultUnwrapsWrong)

/-- 'permafrostlaw1.FaultChains': WHATEVER THE INPUT: true; the input reads as it did. -/
def faultChainsSpec : ChangeSpec := { name := "faultChains", fn := fun _ => fun
  | [d1, d2, d3] => { results := [.lit (.bool true)], args := [d1, d2, d3] }
  | _ => none }
def faultChainsRow : OpenClaim := { program := "ytmbkcohkmedpgaadoor", sum := "5c83963fa46e13425a199b444ad26f531c8059b7786f09d8f5513f8678b0e95f", func := "permafrost/permafrostlaw1.FaultChains", spec := "faultChains", inPlace := ["internal/reflectlite.ValueOf", "(internal/reflectlite.Value).Type", "(internal/reflectlite.Value).IsNil", "internal/reflectlite.TypeOf", "(internal/reflectlite.Value).Elem", "(internal/reflectlite.Value).Set"], unfollowed := true, recurses := true, named := ["errors.errorType"], apart := false, laid := [("errors.errorType", laid_errors_errorType)] }
def FaultChainsSaid : Prop := faultChainsRow.holds Tryd.pinned (OpenSpec.ofChange faultChainsSpec)

/-- ITS FALSE NEIGHBOUR: 'it returns false'. Refute it at one input. -/
def faultChainsWrong : ChangeSpec := { name := "faultChains", fn := fun _ => fun
  | [d1, d2, d3] => { results := [.lit (.bool false)], args := [d1, d2, d3] }
  | _ => none }
def FaultChainsWrongFalsely : Prop := faultChainsRow.holds Tryd.pinned (OpenSpec.ofChange faultChainsWrong)

/-- 'permafrostlaw1.FaultOuter': WHATEVER THE INPUT: true; the input reads as it did. -/
def faultOuterSpec : ChangeSpec := { name := "faultOuter", fn := fun _ => fun
  | [d1, d2, d3, d4] => { results := [.lit (.bool true)], args := [d1, d2, d3, d4] }
  | _ => none }
def faultOuterRow : OpenClaim := { program := "ytmbkcohkmedpgaadoor", sum := "5c83963fa46e13425a199b444ad26f531c8059b7786f09d8f5513f8678b0e95f", func := "permafrost/permafrostlaw1.FaultOuter", spec := "faultOuter", inPlace := ["internal/reflectlite.ValueOf", "(internal/reflectlite.Value).Type", "(internal/reflectlite.Value).IsNil", "internal/reflectlite.TypeOf", "(internal/reflectlite.Value).Elem", "(internal/reflectlite.Value).Set"], unfollowed := true, recurses := true, named := ["errors.errorType"], apart := false, laid := [("errors.errorType", laid_errors_errorType)] }
def FaultOuterSaid : Prop := faultOuterRow.holds Tryd.pinned (OpenSpec.ofChange faultOuterSpec)

/-- ITS FALSE NEIGHBOUR: 'it returns false'. Refute it at one input. -/
def faultOuterWrong : ChangeSpec := { name := "faultOuter", fn := fun _ => fun
  | [d1, d2, d3, d4] => { results := [.lit (.bool false)], args := [d1, d2, d3, d4] }
  | _ => none }
def FaultOuterWrongFalsely : Prop := faultOuterRow.holds Tryd.pinned (OpenSpec.ofChange faultOuterWrong)

/-- 'permafrostlaw1.FaultNumbers': WHATEVER THE INPUT: true; the input reads as it did. -/
def faultNumbersSpec : ChangeSpec := { name := "faultNumbers", fn := fun _ => fun
  | [] => { results := [.lit (.bool true)], args := [] }
  | _ => none }
def faultNumbersRow : OpenClaim := { program := "ytmbkcohkmedpgaadoor", sum := "5c83963fa46e13425a199b444ad26f531c8059b7786f09d8f5513f8678b0e95f", func := "permafrost/permafrostlaw1.FaultNumbers", spec := "faultNumbers", inPlace := ["internal/reflectlite.ValueOf", "(internal/reflectlite.Value).Type", "(internal/reflectlite.Value).IsNil", "internal/reflectlite.TypeOf", "(internal/reflectlite.Value).Elem", "(internal/reflectlite.Value).Set"], unfollowed := true, recurses := true, named := ["errors.errorType"], apart := false, laid := [("errors.errorType", laid_errors_errorType)] }
def FaultNumbersSaid : Prop := faultNumbersRow.holds Tryd.pinned (OpenSpec.ofChange faultNumbersSpec)

/-- ITS FALSE NEIGHBOUR: 'it returns false'. Refute it at one input. -/
def faultNumbersWrong : ChangeSpec := { name := "faultNumbers", fn := fun _ => fun
  | [] => { results := [.lit (.bool false)], args := [] }
  | _ => none }
def FaultNumbersWrongFalsely : Prop := faultNumbersRow.holds Tryd.pinned (OpenSpec.ofChange faultNumbersWrong)

/- THE SECOND FORM. 'bulk': how many values and letters a reading holds, each counted each time it is reached (what is shared counts as often as it is met; a slice's spare places count too). A statement '..UptoSaid' is the law's where the arguments, and the package variables that the reading takes, are together of bulk at most 1048576: NARROWER than '..Said'. Prove '..Said' where nothing that the law and all that it calls make is longer than what came in: it says more and counts as full. Else prove '..UptoSaid'. A law counts once. -/
mutual
def uptoBulk {H : Type} : DataW H → Nat
  | .lit (.string bytes) => bytes.length + 1
  | .lit _ => 1
  | .nil => 1
  | .ptr d => uptoBulk d + 1
  | .slice elems spare => uptoBulkAll elems + uptoBulkAll spare + 1
  | .agg parts => uptoBulkAll parts + 1
  | .iface _ d => uptoBulk d + 1
  | .map entries => uptoBulkEntries entries + 1
  | .held _ => 1
def uptoBulkAll {H : Type} : List (DataW H) → Nat
  | [] => 0
  | d :: r => uptoBulk d + uptoBulkAll r
def uptoBulkEntries {H : Type} : List (Lit × DataW H) → Nat
  | [] => 0
  | x :: r => uptoBulkEntry x + uptoBulkEntries r
def uptoBulkEntry {H : Type} : Lit × DataW H → Nat
  | (.string bytes, d) => bytes.length + uptoBulk d + 1
  | (_, d) => uptoBulk d + 1
 end
def uptoSmall : (H : Type) → List (DataW H) → Bool := fun _ ds => decide (uptoBulkAll ds ≤ 1048576)
def OpenSpec.upto (s : _root_.Go.ChangeSpec) : _root_.Go.OpenSpec := { _root_.Go.OpenSpec.ofChange s with cond := some uptoSmall }

/-- 'permafrostlaw1.FaultUnwraps', WHERE WHAT IT READS IS OF BULK AT MOST 1048576: true; the input reads as it did. -/
def faultUnwrapsUptoRow : OpenClaim := { program := "ytmbkcohkmedpgaadoor", sum := "5c83963fa46e13425a199b444ad26f531c8059b7786f09d8f5513f8678b0e95f", func := "permafrost/permafrostlaw1.FaultUnwraps", spec := "faultUnwraps", inPlace := ["internal/reflectlite.ValueOf", "(internal/reflectlite.Value).Type", "(internal/reflectlite.Value).IsNil", "internal/reflectlite.TypeOf", "(internal/reflectlite.Value).Elem", "(internal/reflectlite.Value).Set"], unfollowed := true, recurses := true, named := ["errors.errorType"], apart := false, laid := [("errors.errorType", laid_errors_errorType)], narrowed := true }
def FaultUnwrapsUptoSaid : Prop := faultUnwrapsUptoRow.holds Tryd.pinned (OpenSpec.upto faultUnwrapsSpec)

/-- 'permafrostlaw1.FaultChains', WHERE WHAT IT READS IS OF BULK AT MOST 1048576: true; the input reads as it did. -/
def faultChainsUptoRow : OpenClaim := { program := "ytmbkcohkmedpgaadoor", sum := "5c83963fa46e13425a199b444ad26f531c8059b7786f09d8f5513f8678b0e95f", func := "permafrost/permafrostlaw1.FaultChains", spec := "faultChains", inPlace := ["internal/reflectlite.ValueOf", "(internal/reflectlite.Value).Type", "(internal/reflectlite.Value).IsNil", "internal/reflectlite.TypeOf", "(internal/reflectlite.Value).Elem", "(internal/reflectlite.Value).Set"], unfollowed := true, recurses := true, named := ["errors.errorType"], apart := false, laid := [("errors.errorType", laid_errors_errorType)], narrowed := true }
def FaultChainsUptoSaid : Prop := faultChainsUptoRow.holds Tryd.pinned (OpenSpec.upto faultChainsSpec)

/-- 'permafrostlaw1.FaultOuter', WHERE WHAT IT READS IS OF BULK AT MOST 1048576: true; the input reads as it did. -/
def faultOuterUptoRow : OpenClaim := { program := "ytmbkcohkmedpgaadoor", sum := "5c83963fa46e13425a199b444ad26f531c8059b7786f09d8f5513f8678b0e95f", func := "permafrost/permafrostlaw1.FaultOuter", spec := "faultOuter", inPlace := ["internal/reflectlite.ValueOf", "(internal/reflectlite.Value).Type", "(internal/reflectlite.Value).IsNil", "internal/reflectlite.TypeOf", "(internal/reflectlite.Value).Elem", "(internal/reflectlite.Value).Set"], unfollowed := true, recurses := true, named := ["errors.errorType"], apart := false, laid := [("errors.errorType", laid_errors_errorType)], narrowed := true }
def FaultOuterUptoSaid : Prop := faultOuterUptoRow.holds Tryd.pinned (OpenSpec.upto faultOuterSpec)

/-- 'permafrostlaw1.FaultNumbers', WHERE WHAT IT READS IS OF BULK AT MOST 1048576: true; the input reads as it did. -/
def faultNumbersUptoRow : OpenClaim := { program := "ytmbkcohkmedpgaadoor", sum := "5c83963fa46e13425a199b444ad26f531c8059b7786f09d8f5513f8678b0e95f", func := "permafrost/permafrostlaw1.FaultNumbers", spec := "faultNumbers", inPlace := ["internal/reflectlite.ValueOf", "(internal/reflectlite.Value).Type", "(internal/reflectlite.Value).IsNil", "internal/reflectlite.TypeOf", "(internal/reflectlite.Value).Elem", "(internal/reflectlite.Value).Set"], unfollowed := true, recurses := true, named := ["errors.errorType"], apart := false, laid := [("errors.errorType", laid_errors_errorType)], narrowed := true }
def FaultNumbersUptoSaid : Prop := faultNumbersUptoRow.holds Tryd.pinned (OpenSpec.upto faultNumbersSpec)

end Rows
end Go.Proofs.YtmbkcohkmedpgaaDoor
