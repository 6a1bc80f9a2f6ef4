/- Contracts of op.asks, op.short, op.right. -/
import Derived.Test.YtphjdlckoddgmaaOpLaw
namespace Go.Proofs.Ytphjdlckoddgmaa
open Go.RowKit

def Ask.cells (a : Ask) : Array Value := #[.bool a.path, .bool a.to, .bool a.fd, .bool a.part, .bool a.til, .bool a.snap, .bool a.data]

set_option maxHeartbeats 2000000 in
set_option maxRecDepth 100000 in
theorem asks_some (k : Int) (a : Ask) (h : asksOf k = some a) (w : World) : Calls Try.prog 40 #[.int .i64 k] w fun e w' => e = .returned (.tuple #[.agg a.cells, .bool true]) ∧ Below w.heap.size w w' := by
  have hr := asksOf_range h
  have hk := kinds (k := k) (by omega)
  clear hr
  rcases hk with rfl | rfl | rfl | rfl | rfl | rfl | rfl | rfl | rfl | rfl | rfl | rfl | rfl | rfl | rfl | rfl | rfl
  all_goals
    simp only [asksOf, Option.some.injEq] at h
    subst h
    go_enter Try.func40, Try.ntmps40
    go_wp2_with fail
    refine bodyPost_ret (v := .tuple #[.agg (Ask.cells _), .bool true]) (by simp [results, Try.results40, go_sem, Ask.cells]) rfl ⟨rfl, ?_⟩
    exact ((Ext.refl w).alloc _).1
set_option maxHeartbeats 2000000 in
set_option maxRecDepth 100000 in
theorem asks_none (k : Int) (h : asksOf k = none) (w : World) : Calls Try.prog 40 #[.int .i64 k] w fun e w' => e = .returned (.tuple #[.agg ({} : Ask).cells, .bool false]) ∧ Below w.heap.size w w' := by
  have hr : k < 1 ∨ 17 < k := by
    rcases (show (k < 1 ∨ 17 < k) ∨ (1 ≤ k ∧ k ≤ 17) by omega) with h1 | h1
    · exact h1
    · have hk := kinds (k := k) (by omega)
      rcases hk with rfl | rfl | rfl | rfl | rfl | rfl | rfl | rfl | rfl | rfl | rfl | rfl | rfl | rfl | rfl | rfl | rfl <;> cases h
  clear h
  have h1 : (k == 1) = false := by simp; omega
  have h2 : (k == 2) = false := by simp; omega
  have h3 : (k == 3) = false := by simp; omega
  have h4 : (k == 4) = false := by simp; omega
  have h5 : (k == 5) = false := by simp; omega
  have h6 : (k == 6) = false := by simp; omega
  have h7 : (k == 7) = false := by simp; omega
  have h8 : (k == 8) = false := by simp; omega
  have h9 : (k == 9) = false := by simp; omega
  have h10 : (k == 10) = false := by simp; omega
  have h11 : (k == 11) = false := by simp; omega
  have h12 : (k == 12) = false := by simp; omega
  have h13 : (k == 13) = false := by simp; omega
  have h14 : (k == 14) = false := by simp; omega
  have h15 : (k == 15) = false := by simp; omega
  have h16 : (k == 16) = false := by simp; omega
  have h17 : (k == 17) = false := by simp; omega
  clear hr
  go_enter Try.func40, Try.ntmps40
  go_wp2_with fail
  refine bodyPost_ret (v := .tuple #[.agg (Ask.cells {}), .bool false]) (by simp [results, Try.results40, go_sem, Ask.cells]) rfl ⟨rfl, ?_⟩
  exact ((Ext.refl w).alloc _).1

theorem opshort_any (n : Int) (w : World) : Calls Try.prog 70 #[.int .i64 n] w fun e w' => e = .returned (.bool (shortI n)) ∧ w = w' := by
  unfold shortI
  go_enter Try.func70, Try.ntmps70
  go_wp2
  all_goals go_ret
  all_goals refine ⟨ret_bool ?_, rfl⟩
  all_goals (first | (symm; simp; omega) | go_goals)

end Go.Proofs.Ytphjdlckoddgmaa
