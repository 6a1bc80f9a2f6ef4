/- The walk of permafrostlaw9.BmapNumbers. -/
import Derived.Test.YtlmhlcdpapfeoaaBmapRef
import Derived.Test.YtlmhlcdpapfeoaaBmapBack
namespace Go.Proofs.Ytlmhlcdpapfeoaa
open Go.RowKit

/-- what a way leads back to has that way -/
theorem back_any (l a b : Int) (w : World) : ∃ k : Int, (Calls Try.prog 30 #[.int .i64 l, .int .i64 a, .int .i64 b] w fun e w' => e = .returned (.tuple #[.int .i64 k, .int .i64 0]) ∧ w = w') ∧ wayV k = .tuple #[.int .i64 l, .int .i64 a, .int .i64 b, .int .i64 0]
    ∨ (Calls Try.prog 30 #[.int .i64 l, .int .i64 a, .int .i64 b] w fun e w' => e = .returned (.tuple #[.int .i64 0, .int .i64 1]) ∧ w = w') := by
  by_cases h : okBack l a b
  · rcases h with ⟨rfl, h1, h2, rfl⟩ | ⟨rfl, h1, h2, rfl⟩ | ⟨rfl, h1, h2, h3, h4⟩
    · exact ⟨a, .inl ⟨back_0 a w h1 h2, wayV_of (way_3 a h1 h2)⟩⟩
    · refine ⟨4 + a, .inl ⟨back_1 a w h1 h2, ?_⟩⟩
      have := wayV_of (way_4 (4 + a) (by omega) (by omega))
      rwa [show 4 + a - 4 = a by omega] at this
    · refine ⟨16 + a * 16 + 4 + b, .inl ⟨back_2 a b w h1 h2 h3 h4, ?_⟩⟩
      have := wayV_of (way_5 (16 + a * 16 + 4 + b) (by omega) (by omega))
      rwa [show (16 + a * 16 + 4 + b - 20) / 16 = a by omega, show (16 + a * 16 + 4 + b - 20) % 16 = b by omega] at this
  · exact ⟨0, .inr (back_bad l a b w h)⟩

set_option maxRecDepth 100000 in
set_option maxHeartbeats 800000 in
theorem BmapNumbers_walk (w : World) :
    Calls Try.prog 12 #[] w fun e w' => e = .returned (.bool true) ∧ Below w.heap.size w w' := by
  have B1 := Lib.hid (show blk (-5) = 0 ∧ blk 0 = 0 ∧ blk 1 = 1 ∧ blk 128 = 1 ∧ blk 129 = 2 ∧ blk 4611686018427387904 = 36028797018963968 by decide)
  go_enter Try.func12, Try.ntmps12
  go_wp2_with fail
  go_loop [1] (fun i => ∃ k : Int, -2 ≤ k ∧ k ≤ 280 ∧ i = .int .i64 k) (fun i => (280 - intOf i).toNat)
  case atStart => exact ⟨-2, by omega, by omega, rfl⟩
  case round =>
    obtain ⟨k, hk1, hk2, rfl⟩ := hrel
    by_cases hlt : k < 280
    · go_wp2_with fail
      refine (way_any k _).mono ?_
      rintro e w' ⟨rfl, rfl⟩
      rw [wayV]
      go_wp2_with fail
      refine (refway_any k _).mono ?_
      rintro e w' ⟨rfl, rfl⟩
      rw [wayV]
      go_wp2_with fail
      refine (extra_any k _).mono ?_
      rintro e w' ⟨rfl, rfl⟩
      go_wp2_with fail
      refine (refextra_any k _).mono ?_
      rintro e w' ⟨rfl, rfl⟩
      go_wp2_with fail
      go_round
      case rel => exact ⟨k + 1, by omega, by omega, rfl⟩
      case measure => simp [intOf]; omega
    · clear hk1 hk2
      go_wp2_with fail
      go_loop [14] (fun i => ∃ k : Int, -1 ≤ k ∧ k ≤ 4 ∧ i = .int .i64 k) (fun i => (4 - intOf i).toNat)
      case atStart => exact ⟨-1, by omega, by omega, rfl⟩
      case round =>
        obtain ⟨l, hl1, hl2, rfl⟩ := hrel
        by_cases hlt : l < 4
        · go_wp2_with fail
          go_loop [15] (fun i => ∃ k : Int, -1 ≤ k ∧ k ≤ 18 ∧ i = .int .i64 k) (fun i => (18 - intOf i).toNat)
          case atStart => exact ⟨-1, by omega, by omega, rfl⟩
          case round =>
            obtain ⟨a, ha1, ha2, rfl⟩ := hrel
            by_cases hlt : a < 18
            · go_wp2_with fail
              go_loop [16] (fun i => ∃ k : Int, -1 ≤ k ∧ k ≤ 18 ∧ i = .int .i64 k) (fun i => (18 - intOf i).toNat)
              case atStart => exact ⟨-1, by omega, by omega, rfl⟩
              case round =>
                obtain ⟨b, hb1, hb2, rfl⟩ := hrel
                by_cases hlt : b < 18
                · go_wp2_with fail
                  obtain ⟨q, ⟨hq, hw⟩ | hq⟩ := back_any l a b w
                  · have HW := Lib.hid hw
                    clear hw
                    refine hq.mono ?_
                    clear hq
                    rintro e w' ⟨rfl, rfl⟩
                    go_wp2_with fail
                    refine (refway_any q _).mono ?_
                    rintro e w' ⟨rfl, rfl⟩
                    rw [HW.out]
                    go_wp2_with fail
                    go_round
                    case rel => exact ⟨b + 1, by omega, by omega, rfl⟩
                    case measure => simp [intOf]; omega
                  · refine hq.mono ?_
                    clear hq
                    rintro e w' ⟨rfl, rfl⟩
                    go_wp2_with fail
                    refine (refway_any 0 _).mono ?_
                    rintro e w' ⟨rfl, rfl⟩
                    rw [wayV]
                    go_wp2_with fail
                    go_round
                    case rel => exact ⟨b + 1, by omega, by omega, rfl⟩
                    case measure => simp [intOf]; omega
                · go_wp2_with fail
                  go_round
                  case rel => exact ⟨a + 1, by omega, by omega, rfl⟩
                  case measure => simp [intOf]; omega
            · go_wp2_with fail
              go_round
              case rel => exact ⟨l + 1, by omega, by omega, rfl⟩
              case measure => simp [intOf]; omega
        · go_wp2_with fail
          refine (blocks_any (-5) _ (by omega)).mono ?_
          rintro e w' ⟨rfl, rfl⟩
          rw [B1.out.1]
          go_wp2_with fail
          refine (blocks_any 0 _ (by omega)).mono ?_
          rintro e w' ⟨rfl, rfl⟩
          rw [B1.out.2.1]
          go_wp2_with fail
          refine (blocks_any 1 _ (by omega)).mono ?_
          rintro e w' ⟨rfl, rfl⟩
          rw [B1.out.2.2.1]
          go_wp2_with fail
          refine (blocks_any 128 _ (by omega)).mono ?_
          rintro e w' ⟨rfl, rfl⟩
          rw [B1.out.2.2.2.1]
          go_wp2_with fail
          refine (blocks_any 129 _ (by omega)).mono ?_
          rintro e w' ⟨rfl, rfl⟩
          rw [B1.out.2.2.2.2.1]
          go_wp2_with fail
          refine (blocks_any 4611686018427387904 _ (by omega)).mono ?_
          rintro e w' ⟨rfl, rfl⟩
          rw [B1.out.2.2.2.2.2]
          go_wp2_with fail
          refine (bmap_known _).mono ?_
          rintro e w' ⟨rfl, rfl⟩
          go_wp2_with fail
          go_ret
          exact ⟨rfl, Below.refl _ _⟩
end Go.Proofs.Ytlmhlcdpapfeoaa
