/- The walk of permafrostlaw9.BmapOwn. -/
import Derived.Test.YtlmhlcdpapfeoaaBmap
import Derived.Test.YtlmhlcdpapfeoaaWithin
namespace Go.Proofs.Ytlmhlcdpapfeoaa
open Go.RowKit

theorem BmapOwn_walk (a0 : Int) (a1 : Int) (w : World) (_w0 : (Lit.int .i64 a0).wf = true) (_w1 : (Lit.int .i64 a1).wf = true) :
    Calls Try.prog 10 #[.int .i64 a0, .int .i64 a1] w fun e w' => e = .returned (.bool true) ∧ Below w.heap.size w w' := by
  have hk := within_bd a0 0 275 (by omega)
  have hj := within_bd a1 0 275 (by omega)
  go_enter Try.func10, Try.ntmps10
  go_wp2_with (go_at_call_of 14 (Value.int .i64 a0); refine (within_any a0 0 275 _ (by omega) (by omega) (by omega)).mono ?_; rintro e w' ⟨rfl, rfl⟩)
  refine (within_any a1 0 275 _ (by omega) (by omega) (by omega)).mono ?_
  rintro e w' ⟨rfl, rfl⟩
  generalize within a0 0 275 = n at *
  generalize within a1 0 275 = m at *
  obtain ⟨hk1, hk2⟩ := hk
  obtain ⟨hj1, hj2⟩ := hj
  go_wp2_with fail
  refine (way_any n _).mono ?_
  rintro e w' ⟨rfl, rfl⟩
  rw [wayV]
  go_wp2_with fail
  refine (way_any m _).mono ?_
  rintro e w' ⟨rfl, rfl⟩
  rw [wayV]
  rw [show wE n = 0 by unfold wE; omega, show wE m = 0 by unfold wE; omega]
  have hi : (wL n = wL m ∧ wA n = wA m ∧ wB n = wB m) ↔ n = m := by
    constructor
    · unfold wL wA wB; omega
    · rintro rfl; exact ⟨rfl, rfl, rfl⟩
  have hr : (wL n = 0 ∧ 0 ≤ wA n ∧ wA n < 4 ∧ wB n = 0 ∧ wA n = n) ∨ (wL n = 1 ∧ 0 ≤ wA n ∧ wA n < 16 ∧ wB n = 0) ∨ (wL n = 2 ∧ 0 ≤ wA n ∧ wA n < 16 ∧ 0 ≤ wB n ∧ wB n < 16) := by
    unfold wL wA wB; omega
  generalize wL n = l1 at *
  generalize wL m = l2 at *
  generalize wA n = b1 at *
  generalize wA m = b2 at *
  generalize wB n = c1 at *
  generalize wB m = c2 at *
  have hb : ((l1 == l2) = true ∧ (b1 == b2) = true ∧ (c1 == c2) = true ∧ (n == m) = true) ∨ ((l1 == l2) = true ∧ (b1 == b2) = true ∧ (c1 == c2) = false ∧ (n == m) = false) ∨ ((l1 == l2) = true ∧ (b1 == b2) = false ∧ (n == m) = false) ∨ ((l1 == l2) = false ∧ (n == m) = false) := by
    simp only [beq_iff_eq, beq_eq_false_iff_ne]
    omega
  clear hi
  rcases hb with ⟨e1, e2, e3, e4⟩ | ⟨e1, e2, e3, e4⟩ | ⟨e1, e2, e4⟩ | ⟨e1, e4⟩
  all_goals
    rcases hr with ⟨rfl, r2, r3, rfl, r5⟩ | ⟨rfl, r2, r3, rfl⟩ | ⟨rfl, r2, r3, r4, r5⟩
    · have r6 : n ≤ b1 := by omega
      have r7 : b1 ≤ n := by omega
      clear r5
      go_wp2_with fail
      refine (bmap_known _).mono ?_
      rintro e w' ⟨rfl, rfl⟩
      go_wp2_with fail
      go_ret
      exact ⟨rfl, Below.refl _ _⟩
    · go_wp2_with fail
      refine (bmap_known _).mono ?_
      rintro e w' ⟨rfl, rfl⟩
      go_wp2_with fail
      go_ret
      exact ⟨rfl, Below.refl _ _⟩
    · go_wp2_with fail
      refine (bmap_known _).mono ?_
      rintro e w' ⟨rfl, rfl⟩
      go_wp2_with fail
      go_ret
      exact ⟨rfl, Below.refl _ _⟩
end Go.Proofs.Ytlmhlcdpapfeoaa
