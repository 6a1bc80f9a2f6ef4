/- The walk of permafrostlaw3.CrcNumbers. -/
import Derived.Test.YtlmhlcdpapfeoaaCrcKnown
import Derived.Test.YtlmhlcdpapfeoaaCrcRef
import Derived.Test.YtlmhlcdpapfeoaaOwn
namespace Go.Proofs.Ytlmhlcdpapfeoaa
open Go.RowKit

set_option maxRecDepth 100000 in
theorem CrcNumbers_walk (w : World) :
    Calls Try.prog 4 #[] w fun e w' => e = .returned (.bool true) ∧ Below w.heap.size w w' := by
  go_enter Try.func4, Try.ntmps4
  go_wp2_with fail
  go_loopw [1] (fun i wr => ∃ k : Nat, k ≤ 256 ∧ i = .int .i64 k ∧ Ext w.heap.size w wr) (fun i _ => 256 - (intOf i).toNat)
  case atStart => exact ⟨0, by omega, rfl, Ext.refl w⟩
  case round =>
    obtain ⟨k, hk, rfl, hE⟩ := hrel
    by_cases hlt : k < 256
    · obtain ⟨x, rfl⟩ : ∃ x : UInt8, x.toNat = k := ⟨UInt8.ofNat k, by rw [UInt8.toNat_ofNat']; omega⟩
      go_wp2_with fail
      have hB := Bs.newRow wr #[.int .u8 (x.toNat : Int)] TB (0, 0) 1 1 [x] rfl (by omega) (by simp [maxLen]) rfl
      refine (sum_any _ 1 1 [x] _ hB).mono ?_
      rintro e w' ⟨rfl, rfl⟩
      go_wp2_with fail
      refine (refsum_any _ 1 1 [x] _ hB).mono ?_
      rintro e w' ⟨rfl, rfl⟩
      go_wp2_with fail
      refine (sum_any _ 1 1 [x] _ hB).mono ?_
      rintro e w' ⟨rfl, rfl⟩
      go_wp2_with fail
      refine (more_eq _ _ 1 1 [x] (crcMore 0 [x, x]) _ (crcMore_lt _ _) hB (crcMore_append 0 (by omega) [x] [x])).mono ?_
      rintro e w' ⟨rfl, rfl⟩
      go_wp2_with fail
      have hB2 := Bs.newRow (wr.alloc (.cells #[.int .u8 (x.toNat : Int)] TB)) #[.int .u8 (x.toNat : Int), .int .u8 (x.toNat : Int)] TB (0, 0) 2 2 [x, x] rfl (by omega) (by simp [maxLen]) rfl
      simp only [World.size_alloc] at hB2
      refine (refsum_any _ 2 2 [x, x] _ hB2).mono ?_
      rintro e w' ⟨rfl, rfl⟩
      go_wp2_with fail
      go_roundw
      case rel => exact ⟨x.toNat + 1, by omega, by go_num, (hE.alloc _).alloc _⟩
      case measure => simp [intOf]; omega
    · go_wp2_with fail
      refine (more_any 0 none 0 0 [] _ (by omega) (Bs.nil _)).mono ?_
      rintro e w' ⟨rfl, rfl⟩
      rw [show crcMore 0 [] = 0 from rfl]
      go_wp2_with fail
      refine (crc_known _).mono ?_
      rintro e w' ⟨rfl, hb⟩
      go_wp2_with fail
      go_ret
      exact ⟨rfl, (hE.step hb).1⟩
end Go.Proofs.Ytlmhlcdpapfeoaa
