/- The contract of bmap.Back. -/
import Derived.Test.YtlmhlcdpapfeoaaBmap
namespace Go.Proofs.Ytlmhlcdpapfeoaa
open Go.RowKit

theorem back_0 (a : Int) (w : World) (h0 : 0 ≤ a) (h1 : a < 4) :
    Calls Try.prog 30 #[.int .i64 0, .int .i64 a, .int .i64 0] w fun e w' => e = .returned (.tuple #[.int .i64 a, .int .i64 0]) ∧ w = w' := by
  have hd : decide ((4 : Int) ≤ a) = false := by simp; omega
  go_enter Try.func30, Try.ntmps30
  go_wp2
  go_ret2
  exact ⟨by simp, rfl⟩
theorem back_1 (a : Int) (w : World) (h0 : 0 ≤ a) (h1 : a < 16) :
    Calls Try.prog 30 #[.int .i64 1, .int .i64 a, .int .i64 0] w fun e w' => e = .returned (.tuple #[.int .i64 (4 + a), .int .i64 0]) ∧ w = w' := by
  have hd : decide ((16 : Int) ≤ a) = false := by simp; omega
  go_enter Try.func30, Try.ntmps30
  go_wp2
  go_ret2
  exact ⟨rfl, rfl⟩
theorem back_2 (a b : Int) (w : World) (h0 : 0 ≤ a) (h1 : a < 16) (h2 : 0 ≤ b) (h3 : b < 16) :
    Calls Try.prog 30 #[.int .i64 2, .int .i64 a, .int .i64 b] w fun e w' => e = .returned (.tuple #[.int .i64 (16 + a * 16 + 4 + b), .int .i64 0]) ∧ w = w' := by
  have hd : decide ((16 : Int) ≤ a) = false := by simp; omega
  have he : decide ((16 : Int) ≤ b) = false := by simp; omega
  go_enter Try.func30, Try.ntmps30
  go_wp2
  go_ret2
  exact ⟨rfl, rfl⟩

def okBack (l a b : Int) : Prop := (l = 0 ∧ 0 ≤ a ∧ a < 4 ∧ b = 0) ∨ (l = 1 ∧ 0 ≤ a ∧ a < 16 ∧ b = 0) ∨ (l = 2 ∧ 0 ≤ a ∧ a < 16 ∧ 0 ≤ b ∧ b < 16)

set_option maxHeartbeats 1600000 in
theorem back_bad (l a b : Int) (w : World) (h : ¬ okBack l a b) :
    Calls Try.prog 30 #[.int .i64 l, .int .i64 a, .int .i64 b] w fun e w' => e = .returned (.tuple #[.int .i64 0, .int .i64 1]) ∧ w = w' := by
  unfold okBack at h
  by_cases l2 : l = 2
  · subst l2
    by_cases c1 : b < 0
    · go_enter Try.func30, Try.ntmps30
      go_wp2
      go_ret2
      exact ⟨rfl, rfl⟩
    by_cases c2 : 16 ≤ b
    · go_enter Try.func30, Try.ntmps30
      go_wp2
      go_ret2
      exact ⟨rfl, rfl⟩
    have c2' : decide (16 ≤ b) = false := by simpa using c2
    by_cases c3 : a < 0
    · go_enter Try.func30, Try.ntmps30
      go_wp2
      go_ret2
      exact ⟨rfl, rfl⟩
    have c4 : 16 ≤ a := by omega
    go_enter Try.func30, Try.ntmps30
    go_wp2
    go_ret2
    exact ⟨rfl, rfl⟩
  by_cases l1 : l = 1
  · subst l1
    by_cases c1 : a < 0
    · go_enter Try.func30, Try.ntmps30
      go_wp2
      go_ret2
      exact ⟨rfl, rfl⟩
    by_cases c2 : 16 ≤ a
    · go_enter Try.func30, Try.ntmps30
      go_wp2
      go_ret2
      exact ⟨rfl, rfl⟩
    have c2' : decide (16 ≤ a) = false := by simpa using c2
    have c3 : (b != 0) = true := by rw [bne_iff_ne]; omega
    clear h l2
    go_enter Try.func30, Try.ntmps30
    go_wp2
    go_ret2
    exact ⟨rfl, rfl⟩
  by_cases l0 : l = 0
  · subst l0
    by_cases c1 : a < 0
    · go_enter Try.func30, Try.ntmps30
      go_wp2
      go_ret2
      exact ⟨rfl, rfl⟩
    by_cases c2 : 4 ≤ a
    · go_enter Try.func30, Try.ntmps30
      go_wp2
      go_ret2
      exact ⟨rfl, rfl⟩
    have c2' : decide (4 ≤ a) = false := by simpa using c2
    have c3 : (b != 0) = true := by rw [bne_iff_ne]; omega
    clear h l2 l1
    go_enter Try.func30, Try.ntmps30
    go_wp2
    go_ret2
    exact ⟨rfl, rfl⟩
  have e2 : (l == 2) = false := by rw [beq_eq_false_iff_ne]; exact l2
  have e1 : (l == 1) = false := by rw [beq_eq_false_iff_ne]; exact l1
  have e0 : (l == 0) = false := by rw [beq_eq_false_iff_ne]; exact l0
  clear l0 l1 l2 h
  go_enter Try.func30, Try.ntmps30
  go_wp2
  go_ret2
  exact ⟨rfl, rfl⟩
end Go.Proofs.Ytlmhlcdpapfeoaa
