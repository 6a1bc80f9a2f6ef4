/- The contract of permafrostkeep.Cut. -/
import Derived.Test.YtklckjmlifddjaaProg
import Derived.Test.YtklckjmlifddjaaBase
namespace Go.Proofs.Ytklckjmlifddjaa
open Go.RowKit

theorem cut_any (n : Nat) (a : Option Addr) (len cap : Nat) (w : World) (h1 : len ≤ cap) (hn : n ≤ 1000000000000) :
    Calls Try.prog 4 #[.slice a len cap, .int .i64 (n : Int)] w fun e w' => e = .returned (.slice a (min len n) cap) ∧ w = w' := by
  by_cases h : n < len
  · go_enter Try.func4, Try.ntmps4
    go_wp2
    go_ret
    exact ⟨by rw [Nat.min_eq_right (by omega)]; rfl, rfl⟩
  · go_enter Try.func4, Try.ntmps4
    go_wp2
    go_ret
    exact ⟨by rw [Nat.min_eq_left (by omega)]; rfl, rfl⟩

end Go.Proofs.Ytklckjmlifddjaa
