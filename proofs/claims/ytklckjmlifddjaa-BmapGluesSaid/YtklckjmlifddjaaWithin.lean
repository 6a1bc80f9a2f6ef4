/- The contract of permafrostbook.Within. -/
import Derived.Test.YtklckjmlifddjaaProg
import Derived.Test.YtklckjmlifddjaaBase
namespace Go.Proofs.Ytklckjmlifddjaa
open Go.RowKit

set_option maxHeartbeats 400000 in
theorem within_any (n lo hi : Int) (w : World) (h1 : lo ≤ hi) (h2 : -1000000000000000 ≤ lo) (h3 : hi ≤ 1000000000000000) :
    Calls Try.prog 8 #[.int .i64 n, .int .i64 lo, .int .i64 hi] w fun e w' => e = .returned (.int .i64 (within n lo hi)) ∧ w = w' := by
  have hb := tmod_bd n (hi - lo + 1) (by omega)
  obtain ⟨hb1, hb2⟩ := hb
  go_enter Try.func8, Try.ntmps8
  go_wp2
  · have h : n.tmod (hi - lo + 1) < 0 := by assumption
    have := tmod_neg n (hi - lo + 1) (by omega) h
    go_ret
    exact ⟨ret_int (by unfold within; omega), rfl⟩
  · have h : 0 ≤ n.tmod (hi - lo + 1) := by assumption
    have := tmod_pos n (hi - lo + 1) (by omega) h
    go_ret
    exact ⟨ret_int (by unfold within; omega), rfl⟩

end Go.Proofs.Ytklckjmlifddjaa
