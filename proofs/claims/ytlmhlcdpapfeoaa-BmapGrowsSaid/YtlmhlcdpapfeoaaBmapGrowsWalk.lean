/- The walk of permafrostlaw9.BmapGrows. -/
import Derived.Test.YtlmhlcdpapfeoaaBmap
import Derived.Test.YtlmhlcdpapfeoaaWithin
namespace Go.Proofs.Ytlmhlcdpapfeoaa
open Go.RowKit

/-- ways rise -/
theorem way_up (n : Int) (h0 : 0 ≤ n) (h1 : n ≤ 274) : wL n < wL (n + 1) ∨ (wL n ≤ wL (n + 1) ∧ wL (n + 1) ≤ wL n ∧ wA n < wA (n + 1)) ∨ (wL n ≤ wL (n + 1) ∧ wL (n + 1) ≤ wL n ∧ wA n ≤ wA (n + 1) ∧ wA (n + 1) ≤ wA n ∧ wB n < wB (n + 1)) := by
  unfold wL wA wB; omega
theorem ex_up (n : Int) (h0 : 0 ≤ n) (h1 : n ≤ 275) : 0 ≤ exN n ∧ exN n ≤ exN (n + 1) ∧ exN (n + 1) ≤ 100 ∧ exN (n + 1) - exN n ≤ 2 ∧ (n = 20 → exN (n + 1) - exN n = 2) ∧ (n ≠ 20 → exN (n + 1) - exN n ≠ 2) := by
  unfold exN; omega

theorem BmapGrows_walk (a0 : Int) (w : World) (_w0 : (Lit.int .i64 a0).wf = true) :
    Calls Try.prog 9 #[.int .i64 a0] w fun e w' => e = .returned (.bool true) ∧ Below w.heap.size w w' := by
  have hk := within_bd a0 0 274 (by omega)
  go_enter Try.func9, Try.ntmps9
  go_wp2_with fail
  refine (within_any a0 0 274 _ (by omega) (by omega) (by omega)).mono ?_
  rintro e w' ⟨rfl, rfl⟩
  generalize within a0 0 274 = n at *
  obtain ⟨hk1, hk2⟩ := hk
  go_wp2_with fail
  refine (way_any n _).mono ?_
  rintro e w' ⟨rfl, rfl⟩
  rw [wayV]
  go_wp2_with fail
  refine (way_any (n + 1) _).mono ?_
  rintro e w' ⟨rfl, rfl⟩
  rw [wayV]
  go_wp2_with fail
  refine (extra_any n _).mono ?_
  rintro e w' ⟨rfl, rfl⟩
  go_wp2_with fail
  refine (extra_any (n + 1) _).mono ?_
  rintro e w' ⟨rfl, rfl⟩
  have hu := way_up n hk1 hk2
  have hx := ex_up n hk1 (by omega)
  rw [show wE n = 0 by unfold wE; omega, show wE (n + 1) = 0 by unfold wE; omega, show exE n = 0 by unfold exE; omega, show exE (n + 1) = 0 by unfold exE; omega]
  generalize wL n = l1 at *
  generalize wL (n + 1) = l2 at *
  generalize wA n = a1 at *
  generalize wA (n + 1) = a2 at *
  generalize wB n = b1 at *
  generalize wB (n + 1) = b2 at *
  generalize exN n = x at *
  generalize exN (n + 1) = y at *
  obtain ⟨hx0, hx1, hx2, hx3, hx4, hx5⟩ := hx
  rcases (show ((y - x == 2) = true ∧ (n == 20) = true) ∨ ((y - x == 2) = false ∧ (n == 20) = false) by
    by_cases h : n = 20
    · exact .inl ⟨by rw [hx4 h]; rfl, by rw [h]; rfl⟩
    · exact .inr ⟨beq_eq_false_iff_ne.2 (hx5 h), beq_eq_false_iff_ne.2 h⟩) with ⟨c1, c2⟩ | ⟨c1, c2⟩
  all_goals
    clear hx4 hx5
    rcases hu with hu | ⟨hu1, hu2, hu3⟩ | ⟨hu1, hu2, hu3, hu4, hu5⟩
    · go_wp2_with fail
      refine (bmap_known _).mono ?_
      rintro e w' ⟨rfl, rfl⟩
      go_wp2_with fail
      go_ret
      exact ⟨rfl, Below.refl _ _⟩
    · have d1 : decide (l1 < l2) = false := by simp; omega
      go_wp2_with fail
      refine (bmap_known _).mono ?_
      rintro e w' ⟨rfl, rfl⟩
      go_wp2_with fail
      go_ret
      exact ⟨rfl, Below.refl _ _⟩
    · have d1 : decide (l1 < l2) = false := by simp; omega
      have d2 : decide (a1 < a2) = false := by simp; omega
      go_wp2_with fail
      refine (bmap_known _).mono ?_
      rintro e w' ⟨rfl, rfl⟩
      go_wp2_with fail
      go_ret
      exact ⟨rfl, Below.refl _ _⟩
end Go.Proofs.Ytlmhlcdpapfeoaa
