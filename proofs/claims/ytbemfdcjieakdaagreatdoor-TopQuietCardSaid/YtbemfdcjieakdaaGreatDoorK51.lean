/- TopQuietFacts. -/
import Derived.JoinedOf
import Derived.KernelRfl
import Derived.ProofKit
import Derived.Test.YtbemfdcjieakdaaGreatDoorRows
import Derived.Test.YtbemfdcjieakdaaGreatDoorK01
set_option maxRecDepth 100000
set_option maxHeartbeats 8000000
namespace Go.Proofs.YtbemfdcjieakdaaGreatDoor.topQuiet
section
open Go.RowKit
theorem andT{a b:Bool}(d:a=true)(c:b=true):(a && b)=true:=by rw[d,c];rfl
theorem facts:joinedFacts Tryz.prog 3 Tryz.f3 Rows.topQuietSpec Rows.topQuietRow=true:=by
 unfold joinedFacts;repeat' with_reducible refine andT ?_ ?_
 all_goals (as_aux_lemma=>kernel_rfl)
end
end Go.Proofs.YtbemfdcjieakdaaGreatDoor.topQuiet
