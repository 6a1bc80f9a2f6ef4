/- The walk of permafrostlaw3.CrcTells. -/
import Derived.Test.YtlmhlcdpapfeoaaCrcKnown
import Derived.Test.YtlmhlcdpapfeoaaCrcRef
import Derived.Test.YtlmhlcdpapfeoaaWithin
import Derived.Test.YtlmhlcdpapfeoaaCut
namespace Go.Proofs.Ytlmhlcdpapfeoaa
open Go.RowKit

theorem CrcTells_walk (a0 : Option Addr) (len0 cap0 : Nat) (z0 : List Int) (a1 : Int) (w : World) (w0 : IsRow .u8 w a0 len0 cap0 z0) (_w1 : (Lit.int .i64 a1).wf = true) :
    Calls Try.prog 5 #[.slice a0 len0 cap0, .int .i64 a1] w fun e w' => e = .returned (.bool true) ∧ Below w.heap.size w w' := by
  have hB := Bs.ofRow w0
  have hB1 := hB.take (k := min len0 500) (by omega)
  generalize (bytesOf len0 z0).take (min len0 500) = xs at *
  have hm : min len0 500 ≤ 500 := by omega
  have hlen := hB.2.1
  go_enter Try.func5, Try.ntmps5
  go_wp2_with fail
  refine (cut_any 500 a0 len0 cap0 _ hlen (by omega)).mono ?_
  rintro e w' ⟨rfl, rfl⟩
  generalize min len0 500 = n at *
  clear hB hlen w0
  have hk := within_bd a1 0 n (by omega)
  go_wp2_with fail
  refine (within_any a1 0 n _ (by omega) (by omega) (by omega)).mono ?_
  rintro e w' ⟨rfl, rfl⟩
  obtain ⟨k, hkk⟩ := Int.eq_ofNat_of_zero_le hk.1
  rw [hkk] at hk ⊢
  clear hkk
  have hk2 : k ≤ n := by omega
  clear hk
  have hT := hB1.take hk2
  have hD := hB1.drop hk2
  have hM : crcMore (crcMore 0 (xs.take k)) (xs.drop k) = crcMore 0 xs := by rw [crcMore_append 0 (by omega), List.take_append_drop]
  have HM := Lib.hid hM
  clear hM
  have hnc := hB1.2.1
  have hl := crcMore_lt 0 xs
  have hl2 := crcMore_lt 0 (xs.take k)
  go_wp2_with fail
  refine wp_region_over (by kernel_rfl) (by kernel_rfl) ?_
  repeat (go_big_quiet_step ((first | (go_at_call 17; exact over_same (sum_any _ _ _ xs _ (hB1.over _))) | (go_at_call_of 18 (Value.slice a0 n cap0); exact over_same (refsum_any _ _ _ xs _ (hB1.over _))) | (go_at_call_of 18 (Value.slice a0 k cap0); exact over_same (refsum_any _ _ _ _ _ (hT.over _))) | (go_at_call_of 19 (Value.slice a0 n cap0); exact over_same (more_any 0 _ _ _ xs _ (by omega) (hB1.over _))) | (go_at_call 19; exact over_same (more_eq _ _ _ _ _ _ _ hl2 (hD.over _) HM.out)) | (go_at_call 20; exact over_below (crc_known _)))))
  refine wpQuiet_nil ?_
  rintro _ ⟨nq, rfl⟩
  go_wp2
  all_goals (go_ret; exact ⟨rfl, below_over _ _⟩)

end Go.Proofs.Ytlmhlcdpapfeoaa
