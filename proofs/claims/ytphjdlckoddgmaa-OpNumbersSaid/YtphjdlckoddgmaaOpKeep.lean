/- The contract of permafrostkeep.Op. -/
import Derived.Test.YtphjdlckoddgmaaOpDec
namespace Go.Proofs.Ytphjdlckoddgmaa
open Go.RowKit

set_option maxHeartbeats 4000000 in
set_option maxRecDepth 100000 in
theorem keepop_any (k1 k2 : Int) (p1 p2 t1 t2 : List UInt8) (f1 f2 a1 a2 n1 n2 s1 s2 : Int) (u1 u2 : Nat) (da1 da2 : Option Addr) (dl1 dl2 dc1 dc2 : Nat) (d1 d2 : List UInt8) (w : World) (hB1 : Bs w da1 dl1 dc1 d1) (hB2 : Bs w da2 dl2 dc2 d2) :
    Calls Try.prog 20 #[.agg (ovCells k1 (strOf p1) (strOf t1) f1 a1 n1 u1 s1 da1 dl1 dc1), .agg (ovCells k2 (strOf p2) (strOf t2) f2 a2 n2 u2 s2 da2 dl2 dc2)] w fun e w' =>
      e = .returned (.bool (decide (k1 = k2 ∧ p1 = p2 ∧ t1 = t2 ∧ f1 = f2 ∧ a1 = a2 ∧ n1 = n2 ∧ u1 = u2 ∧ s1 = s2 ∧ d1 = d2))) ∧ Below w.heap.size w w' := by
  have r1 := fun (c d : Array Value) (t t' : TypeId) => run_string ((hB1.alloc (.cells c t)).alloc (.cells d t'))
  have r2 := fun (c d : Array Value) (t t' : TypeId) => run_string ((hB2.alloc (.cells c t)).alloc (.cells d t'))
  unfold ovCells
  go_enter Try.func20, Try.ntmps20
  go_wp2
  all_goals go_ret
  all_goals refine ⟨ret_bool ?_, (((Ext.refl w).alloc _).alloc _).1⟩
  all_goals clear r1 r2 hB1 hB2
  all_goals (try simp only [strOf_toList] at *)
  all_goals (rw [Bool.eq_iff_iff]; first | (simp_all; done) | (simp_all; omega) | go_goals)
end Go.Proofs.Ytphjdlckoddgmaa
