/- The contract of permafrostref15.Asked, and of the small functions that say what a kind asks. -/
import Derived.Test.YtphjdlckoddgmaaOpRight
import Derived.Handy
import Derived.RegionTactic
namespace Go.Proofs.Ytphjdlckoddgmaa
open Go.RowKit

set_option maxHeartbeats 8000000 in
set_option maxRecDepth 100000 in
theorem asked_any (k : Int) (ps ts : ByteArray) (fd at_ n : Int) (til : Nat) (sn : Int) (da : Option Addr) (dl dc : Nat) (a : Ask) (ha : asksOf k = some a) (w : World) :
    Calls Try.prog 18 #[.agg (ovCells k ps ts fd at_ n til sn da dl dc)] w fun e w' => e = .returned (.agg (ovCells k (if a.path then ps else (⟨#[]⟩ : ByteArray)) (if a.to then ts else (⟨#[]⟩ : ByteArray)) (if a.fd then fd else 0) (if a.part then at_ else 0) (if a.part then n else 0) (if a.til then til else 0) (if a.snap then sn else 0) (if a.data then da else none) (if a.data then dl else 0) (if a.data then dc else 0))) ∧ Below w.heap.size w w' := by
  have hr := asksOf_range ha
  have hk := kinds (k := k) (by omega)
  clear hr
  rcases hk with rfl | rfl | rfl | rfl | rfl | rfl | rfl | rfl | rfl | rfl | rfl | rfl | rfl | rfl | rfl | rfl | rfl
  all_goals
    simp only [asksOf, Option.some.injEq] at ha
    subst ha
    simp only [Bool.false_eq_true, if_true, if_false]
    unfold ovCells
    go_enter Try.func18, Try.ntmps18
    go_wp2
    try (go_region; all_goals go_wp2)
    all_goals refine bodyPost_ret ?_ rfl ⟨rfl, ?_⟩
    all_goals (first | (go_grown; done) | (simp [results, Try.results18, go_sem]; done) | skip)
end Go.Proofs.Ytphjdlckoddgmaa
