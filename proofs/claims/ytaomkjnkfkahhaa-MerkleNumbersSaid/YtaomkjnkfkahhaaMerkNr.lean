/- A region of a function, by its number. -/
import Derived.Test.YtaomkjnkfkahhaaMerkP
import Derived.Test.YtaomkjnkfkahhaaHeld
import Derived.Deep.DeepCutAuto
namespace Go.Proofs.Ytaomkjnkfkahhaa
open Go.RowKit
set_option linter.unusedVariables false

def regionOf (n : Nat) : Code → Option Code
  | .region k ops d => if k = n then some (.region k ops d) else none
  | .block _ c => regionOf n c
  | .seq a b => match regionOf n a with
    | some c => some c
    | none => regionOf n b
  | .loop c => regionOf n c
  | .scope c => regionOf n c
  | .cond _ a b => match regionOf n a with
    | some c => some c
    | none => regionOf n b
  | _ => none
/-- a region of the function's text -/
noncomputable def nreg (n : Nat) : Code := ((Try.f5.body.bind (regionOf n)).getD .skip)
end Go.Proofs.Ytaomkjnkfkahhaa
