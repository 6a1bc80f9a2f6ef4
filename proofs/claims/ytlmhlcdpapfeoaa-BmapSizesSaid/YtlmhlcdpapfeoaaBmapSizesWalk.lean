/- The walk of permafrostlaw9.BmapSizes. -/
import Derived.Test.YtlmhlcdpapfeoaaBmap
import Derived.Test.YtlmhlcdpapfeoaaWithin
namespace Go.Proofs.Ytlmhlcdpapfeoaa
open Go.RowKit

theorem BmapSizes_walk (a0 : Int) (w : World) (_w0 : (Lit.int .i64 a0).wf = true) :
    Calls Try.prog 11 #[.int .i64 a0] w fun e w' => e = .returned (.bool true) ∧ Below w.heap.size w w' := by
  have hk := within_bd a0 0 4096 (by omega)
  go_enter Try.func11, Try.ntmps11
  go_wp2_with fail
  refine (within_any a0 0 4096 _ (by omega) (by omega) (by omega)).mono ?_
  rintro e w' ⟨rfl, rfl⟩
  generalize within a0 0 4096 = n at *
  obtain ⟨hk1, hk2⟩ := hk
  go_wp2_with fail
  refine (blocks_any n _ (by omega)).mono ?_
  rintro e w' ⟨rfl, rfl⟩
  have hb : 0 ≤ blk n ∧ blk n ≤ 32 ∧ n ≤ blk n * 128 ∧ (blk n = 0 ∨ (blk n - 1) * 128 < n) ∧ (blk n = 0 ↔ n = 0) := by unfold blk; omega
  generalize blk n = k at *
  obtain ⟨b1, b2, b3, b4, b5⟩ := hb
  go_wp2_with fail
  refine (extra_any k _).mono ?_
  rintro e w' ⟨rfl, rfl⟩
  rw [show exE k = 0 by unfold exE; omega]
  have hx : 0 ≤ exN k ∧ (exN k = 0 ↔ k ≤ 4) := by unfold exN; omega
  generalize exN k = x at *
  obtain ⟨x1, x2⟩ := hx
  by_cases c0 : k = 0
  · obtain rfl : n = 0 := b5.1 c0
    obtain rfl : x = 0 := x2.2 (by omega)
    subst c0
    clear b4 b5 x2
    go_wp2_with fail
    refine (bmap_known _).mono ?_
    rintro e w' ⟨rfl, rfl⟩
    go_wp2_with fail
    go_ret
    exact ⟨rfl, Below.refl _ _⟩
  have e1 : (k == 0) = false := by rw [beq_eq_false_iff_ne]; exact c0
  have e2 : (n == 0) = false := by rw [beq_eq_false_iff_ne]; exact fun h => c0 (b5.2 h)
  have b4' : (k - 1) * 128 < n := by omega
  by_cases c1 : k ≤ 4
  · obtain rfl : x = 0 := x2.2 c1
    clear b4 b5 x2 c0
    have d1 : decide (k ≤ 4) = true := by simpa using c1
    go_wp2_with fail
    refine (bmap_known _).mono ?_
    rintro e w' ⟨rfl, rfl⟩
    go_wp2_with fail
    go_ret
    exact ⟨rfl, Below.refl _ _⟩
  · have e3 : (x == 0) = false := by rw [beq_eq_false_iff_ne]; exact fun h => c1 (x2.1 h)
    have d1 : decide (k ≤ 4) = false := by simpa using c1
    clear b4 b5 x2 c0
    go_wp2_with fail
    refine (bmap_known _).mono ?_
    rintro e w' ⟨rfl, rfl⟩
    go_wp2_with fail
    go_ret
    exact ⟨rfl, Below.refl _ _⟩
end Go.Proofs.Ytlmhlcdpapfeoaa
