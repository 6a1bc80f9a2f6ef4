/- TopKeepsFacts. -/
import Derived.JoinedOf
import Derived.KernelRfl
import Derived.ProofKit
import Derived.Test.YtabdcphioccgnaaGreatDoorRows
import Derived.Test.YtabdcphioccgnaaGreatDoorK01
set_option maxRecDepth 100000
set_option maxHeartbeats 8000000
namespace Go.Proofs.YtabdcphioccgnaaGreatDoor.topKeeps
section
open Go.RowKit
theorem andT {a b : Bool} (ha : a = true) (hb : b = true) : (a && b) = true:=by rw [ha,hb]; rfl
theorem facts : joinedFacts Tryz.prog 3 Tryz.f3 Rows.topKeepsSpec Rows.topKeepsRow = true:=by
 unfold joinedFacts
 repeat' with_reducible refine andT ?_ ?_
 all_goals (as_aux_lemma => kernel_rfl)
end
end Go.Proofs.YtabdcphioccgnaaGreatDoor.topKeeps
