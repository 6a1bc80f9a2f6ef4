/- The contract of op.right. -/
import Derived.Test.YtphjdlckoddgmaaOpAsks
namespace Go.Proofs.Ytphjdlckoddgmaa
open Go.RowKit

/-- an operation's cells -/
def ovCells (k : Int) (ps ts : ByteArray) (fd at_ n : Int) (til : Nat) (sn : Int) (da : Option Addr) (dl dc : Nat) : Array Value :=
  #[.int .i64 k, .string ps, .string ts, .int .i64 fd, .int .i64 at_, .int .i64 n, .int .u64 (til : Int), .int .i64 sn, .slice da dl dc]

set_option maxHeartbeats 4000000 in
set_option maxRecDepth 100000 in
theorem right_any (k : Int) (ps ts : ByteArray) (fd at_ n : Int) (til : Nat) (sn : Int) (da : Option Addr) (dl dc : Nat) (a : Ask) (k' : Int) (ha : asksOf k' = some a) (w : World) :
    Calls Try.prog 41 #[.agg (ovCells k ps ts fd at_ n til sn da dl dc), .agg a.cells] w fun e w' => e = .returned (.int .i64 (rightN a ps.size ts.size dl fd at_ n sn : Nat)) ∧ Below w.heap.size w w' := by
  have hs := asks_sets ha
  clear ha
  rcases hs with rfl | rfl | rfl | rfl | rfl | rfl | rfl | rfl | rfl | rfl
  all_goals
    unfold ovCells Ask.cells
    go_enter Try.func41, Try.ntmps41
    go_wp2
    all_goals go_ret
    all_goals refine ⟨ret_int ?_, (((Ext.refl w).alloc _).alloc _).1⟩
    all_goals simp only [rightN, shortI, Bool.false_eq_true, true_and, false_and, or_false, false_or, decide_eq_false_iff_not]
    all_goals (first | rfl | (repeat' split) <;> first | omega | rfl | (exfalso; omega) | (simp_all; done))
end Go.Proofs.Ytphjdlckoddgmaa
