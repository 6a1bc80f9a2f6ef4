/- The contract of permafrostkeep.Cut. -/
import Derived.Test.YtdglhonogopciaaProg
import Derived.Test.YtdglhonogopciaaBase
namespace Go.Proofs.Ytdglhonogopciaa
open Go.RowKit

theorem cut_any (n : Nat) (a : Option Addr) (len cap : Nat) (w : World) (h1 : len ≤ cap) (hn : n ≤ 1000000000000) :
    Calls Try.prog 10 #[.slice a len cap, .int .i64 (n : Int)] w fun e w' => e = .returned (.slice a (min len n) cap) ∧ w = w' := by
  by_cases h : n < len
  · go_enter Try.func10, Try.ntmps10
    go_wp2
    go_ret
    exact ⟨by rw [Nat.min_eq_right (by omega)]; rfl, rfl⟩
  · go_enter Try.func10, Try.ntmps10
    go_wp2
    go_ret
    exact ⟨by rw [Nat.min_eq_left (by omega)]; rfl, rfl⟩

end Go.Proofs.Ytdglhonogopciaa
