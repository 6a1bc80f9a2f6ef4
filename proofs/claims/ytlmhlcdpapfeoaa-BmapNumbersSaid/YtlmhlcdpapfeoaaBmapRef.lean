/- Contracts of the document's answer in chapter 9 (permafrostref9). -/
import Derived.Test.YtlmhlcdpapfeoaaBmap
namespace Go.Proofs.Ytlmhlcdpapfeoaa
open Go.RowKit

theorem refway_any (k : Int) (w : World) :
    Calls Try.prog 28 #[.int .i64 k] w fun e w' => e = .returned (wayV k) ∧ w = w' := by
  by_cases h1 : k < 0
  · have H := Lib.hid (wayV_of (way_1 k h1))
    go_enter Try.func28, Try.ntmps28
    go_wp2
    exact bodyPost_ret (v := .tuple #[.int .i64 0, .int .i64 0, .int .i64 0, .int .i64 1]) (by simp [results, Try.results28, go_sem]) rfl ⟨by rw [H.out], rfl⟩
  by_cases h2 : 276 ≤ k
  · have H := Lib.hid (wayV_of (way_2 k h2))
    go_enter Try.func28, Try.ntmps28
    go_wp2
    exact bodyPost_ret (v := .tuple #[.int .i64 0, .int .i64 0, .int .i64 0, .int .i64 1]) (by simp [results, Try.results28, go_sem]) rfl ⟨by rw [H.out], rfl⟩
  have h2' : decide (276 ≤ k) = false := by simpa using h2
  by_cases h3 : k < 4
  · have H := Lib.hid (wayV_of (way_3 k (by omega) h3))
    go_enter Try.func28, Try.ntmps28
    go_wp2
    exact bodyPost_ret (v := .tuple #[.int .i64 0, .int .i64 k, .int .i64 0, .int .i64 0]) (by simp [results, Try.results28, go_sem]) rfl ⟨by rw [H.out], rfl⟩
  by_cases h4 : k < 20
  · have H := Lib.hid (wayV_of (way_4 k (by omega) h4))
    go_enter Try.func28, Try.ntmps28
    go_wp2
    exact bodyPost_ret (v := .tuple #[.int .i64 1, .int .i64 (k - 4), .int .i64 0, .int .i64 0]) (by simp [results, Try.results28, go_sem]) rfl ⟨by rw [H.out], rfl⟩
  · have H := Lib.hid (wayV_of (way_5 k (by omega) (by omega)))
    go_enter Try.func28, Try.ntmps28
    go_wp2
    exact bodyPost_ret (v := .tuple #[.int .i64 2, .int .i64 ((k - 4 - 16) / 16), .int .i64 ((k - 4 - 16) % 16), .int .i64 0]) (by simp [results, Try.results28, go_sem]) rfl ⟨by rw [H.out, show k - 4 - 16 = k - 20 by omega], rfl⟩

theorem refblocks_any (n : Int) (w : World) (h : n ≤ 9223372036854775807) :
    Calls Try.prog 31 #[.int .i64 n] w fun e w' => e = .returned (.int .i64 (blk n)) ∧ w = w' := by
  by_cases h1 : n < 1
  · go_enter Try.func31, Try.ntmps31
    go_wp2
    go_ret
    exact ⟨by rw [blk, if_pos h1]; rfl, rfl⟩
  · go_enter Try.func31, Try.ntmps31
    go_wp2
    go_ret
    exact ⟨by rw [blk, if_neg (by omega)]; rfl, rfl⟩


theorem exN_step (k : Int) (h0 : 0 ≤ k) (h1 : k < 276) : exN (k + 1) = exN k + (if wL k = 1 ∧ wA k = 0 ∨ wL k = 2 ∧ wB k = 0 then 1 else 0) + (if wL k = 2 ∧ wA k = 0 ∧ wB k = 0 then 1 else 0) := by
  unfold exN wL wA wB
  by_cases h2 : k < 4
  · simp only [show ¬ (k < 0 ∨ 276 ≤ k) by omega, show ¬ (k + 1 < 0 ∨ 276 < k + 1) by omega, show ¬ (k < 0 ∨ 276 < k) by omega, if_false, if_pos h2]
    rw [if_neg (by omega), if_neg (by omega), if_neg (by omega), if_neg (by omega), if_neg (by omega), if_neg (by omega)]; rfl
  · by_cases h3 : k < 20
    · simp only [show ¬ (k < 0 ∨ 276 ≤ k) by omega, show ¬ (k + 1 < 0 ∨ 276 < k + 1) by omega, show ¬ (k < 0 ∨ 276 < k) by omega, if_false, if_neg h2, if_pos h3]
      by_cases h4 : k = 4
      · subst h4; decide
      · rw [if_neg (by omega), if_pos (by omega), if_neg (by omega), if_pos (by omega), if_neg (by omega), if_neg (by omega)]; omega
    · simp only [show ¬ (k < 0 ∨ 276 ≤ k) by omega, show ¬ (k < 20 ∨ 276 ≤ k) by omega, show ¬ (k + 1 < 0 ∨ 276 < k + 1) by omega, show ¬ (k < 0 ∨ 276 < k) by omega, if_false, if_neg h2, if_neg h3]
      rw [if_pos (show 20 < k + 1 by omega)]
      by_cases h4 : k = 20
      · subst h4; decide
      · rw [if_pos (show 20 < k by omega)]
        by_cases h5 : (k - 20) % 16 = 0
        · rw [if_pos (Or.inr ⟨trivial, h5⟩), if_neg (by omega)]; omega
        · rw [if_neg (by omega), if_neg (by omega)]; omega

set_option maxRecDepth 100000 in
theorem refextra_any (n : Int) (w : World) :
    Calls Try.prog 29 #[.int .i64 n] w fun e w' => e = .returned (.tuple #[.int .i64 (exN n), .int .i64 (exE n)]) ∧ w = w' := by
  by_cases h1 : n < 0
  · have H := Lib.hid (show exN n = 0 ∧ exE n = 1 by unfold exN exE; omega)
    go_enter Try.func29, Try.ntmps29
    go_wp2
    go_ret2
    exact ⟨by rw [H.out.1, H.out.2]; rfl, rfl⟩
  by_cases h2 : 276 < n
  · have H := Lib.hid (show exN n = 0 ∧ exE n = 1 by unfold exN exE; omega)
    go_enter Try.func29, Try.ntmps29
    go_wp2
    go_ret2
    exact ⟨by rw [H.out.1, H.out.2]; rfl, rfl⟩
  have h2' : decide (276 < n) = false := by simpa using h2
  have HE := Lib.hid (show exE n = 0 by unfold exE; omega)
  have hb : ∀ k : Int, 0 ≤ exN k ∧ exN k ≤ 100 := fun k => by unfold exN; omega
  go_enter Try.func29, Try.ntmps29
  go_wp2_with fail
  go_loop [4, 5] (fun t i => ∃ k : Int, 0 ≤ k ∧ k ≤ n ∧ i = .int .i64 k ∧ t = .int .i64 (exN k)) (fun _ i => (n - intOf i).toNat)
  case atStart => exact ⟨0, by omega, by omega, rfl, rfl⟩
  case round =>
    obtain ⟨k, hk0, hk, rfl, rfl⟩ := hrel
    have hbk := (hb k).2
    have hbk0 := (hb k).1
    clear hb
    by_cases hlt : k < n
    · have HS := Lib.hid (exN_step k hk0 (by omega))
      go_wp2_with fail
      refine (refway_any k _).mono ?_
      rintro e w' ⟨rfl, rfl⟩
      rw [wayV]
      by_cases c1 : k < 4
      · obtain ⟨e1, e2, e3, e4⟩ := way_3 k hk0 c1
        rw [e1, e2, e3, e4]
        have HS2 := Lib.hid (show exN (k + 1) = exN k by rw [HS.out, e1, e2, e3]; simp)
        clear e1 e2 e3 e4 HS
        go_wp2_with fail
        go_round
        case rel => exact ⟨k + 1, by omega, by omega, rfl, by rw [HS2.out]⟩
        case measure => simp [intOf]; omega
      by_cases c2 : k < 20
      · obtain ⟨e1, e2, e3, e4⟩ := way_4 k (by omega) c2
        rw [e1, e2, e3, e4]
        by_cases c3 : k = 4
        · have HS2 := Lib.hid (show exN (k + 1) = exN k + 1 by rw [HS.out, e1, e2, e3, c3]; simp)
          clear e1 e2 e3 e4 HS
          subst c3
          go_wp2_with fail
          go_round
          case rel => exact ⟨4 + 1, by omega, by omega, rfl, by rw [HS2.out]⟩
          case measure => simp [intOf]; omega
        · have HS2 := Lib.hid (show exN (k + 1) = exN k by rw [HS.out, e1, e2, e3]; rw [if_neg (by omega), if_neg (by omega)]; omega)
          have hz : ((k - 4 : Int) == 0) = false := by rw [beq_eq_false_iff_ne]; omega
          clear e1 e2 e3 e4 HS
          go_wp2_with fail
          go_round
          case rel => exact ⟨k + 1, by omega, by omega, rfl, by rw [HS2.out]⟩
          case measure => simp [intOf]; omega
      · obtain ⟨e1, e2, e3, e4⟩ := way_5 k (by omega) (by omega)
        rw [e1, e2, e3, e4]
        by_cases c3 : (k - 20) % 16 = 0
        · by_cases c4 : (k - 20) / 16 = 0
          · have HS2 := Lib.hid (show exN (k + 1) = exN k + 1 + 1 by rw [HS.out, e1, e2, e3, c3, c4]; simp)
            clear e1 e2 e3 e4 HS
            rw [c3, c4]
            clear c3 c4
            go_wp2_with fail
            go_round
            case rel => exact ⟨k + 1, by omega, by omega, rfl, by rw [HS2.out]⟩
            case measure => simp [intOf]; omega
          · have HS2 := Lib.hid (show exN (k + 1) = exN k + 1 by rw [HS.out, e1, e2, e3, c3, if_pos (.inr ⟨rfl, rfl⟩), if_neg (by omega)]; omega)
            have hz : (((k - 20) / 16 : Int) == 0) = false := by rw [beq_eq_false_iff_ne]; omega
            clear e1 e2 e3 e4 HS
            rw [c3]
            clear c3 c4
            go_wp2_with fail
            go_round
            case rel => exact ⟨k + 1, by omega, by omega, rfl, by rw [HS2.out]⟩
            case measure => simp [intOf]; omega
        · have HS2 := Lib.hid (show exN (k + 1) = exN k by rw [HS.out, e1, e2, e3, if_neg (by omega), if_neg (by omega)]; omega)
          have hz : (((k - 20) % 16 : Int) == 0) = false := by rw [beq_eq_false_iff_ne]; omega
          clear e1 e2 e3 e4 HS c3
          by_cases c4 : (k - 20) / 16 = 0
          · rw [c4]
            clear c4
            go_wp2_with fail
            go_round
            case rel => exact ⟨k + 1, by omega, by omega, rfl, by rw [HS2.out]⟩
            case measure => simp [intOf]; omega
          · have hy : (((k - 20) / 16 : Int) == 0) = false := by rw [beq_eq_false_iff_ne]; omega
            clear c4
            go_wp2_with fail
            go_round
            case rel => exact ⟨k + 1, by omega, by omega, rfl, by rw [HS2.out]⟩
            case measure => simp [intOf]; omega
    · obtain rfl : k = n := by omega
      go_wp2_with fail
      go_ret2
      exact ⟨by rw [HE.out]; rfl, rfl⟩
end Go.Proofs.Ytlmhlcdpapfeoaa
