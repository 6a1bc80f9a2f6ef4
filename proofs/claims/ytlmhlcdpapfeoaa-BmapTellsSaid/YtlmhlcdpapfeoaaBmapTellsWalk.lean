/- The walk of permafrostlaw9.BmapTells. -/
import Derived.Test.YtlmhlcdpapfeoaaBmapRef
import Derived.Test.YtlmhlcdpapfeoaaBmapBack
import Derived.Test.YtlmhlcdpapfeoaaWithin
namespace Go.Proofs.Ytlmhlcdpapfeoaa
open Go.RowKit

/-- each way leads back -/
theorem back_way (k : Int) (w : World) (h0 : 0 ≤ k) (h1 : k < 276) :
    Calls Try.prog 30 #[.int .i64 (wL k), .int .i64 (wA k), .int .i64 (wB k)] w fun e w' => e = .returned (.tuple #[.int .i64 k, .int .i64 0]) ∧ w = w' := by
  by_cases h2 : k < 4
  · obtain ⟨e1, e2, e3, _⟩ := way_3 k h0 h2
    rw [e1, e2, e3]
    exact back_0 k w h0 h2
  by_cases h3 : k < 20
  · obtain ⟨e1, e2, e3, _⟩ := way_4 k (by omega) h3
    rw [e1, e2, e3]
    have := back_1 (k - 4) w (by omega) (by omega)
    rwa [show 4 + (k - 4) = k by omega] at this
  · obtain ⟨e1, e2, e3, _⟩ := way_5 k (by omega) h1
    rw [e1, e2, e3]
    have := back_2 ((k - 20) / 16) ((k - 20) % 16) w (by omega) (by omega) (by omega) (by omega)
    rwa [show 16 + (k - 20) / 16 * 16 + 4 + (k - 20) % 16 = k by omega] at this

theorem BmapTells_walk (a0 : Int) (a1 : Int) (a2 : Int) (w : World) (_w0 : (Lit.int .i64 a0).wf = true) (_w1 : (Lit.int .i64 a1).wf = true) (w2 : (Lit.int .i64 a2).wf = true) :
    Calls Try.prog 13 #[.int .i64 a0, .int .i64 a1, .int .i64 a2] w fun e w' => e = .returned (.bool true) ∧ Below w.heap.size w w' := by
  have hk := within_bd a0 0 275 (by omega)
  have hw2 : a2 ≤ 9223372036854775807 := by simp [Lit.wf, IntKind.min, IntKind.max, IntKind.bits, IntKind.signed] at w2; omega
  go_enter Try.func13, Try.ntmps13
  go_wp2_with fail
  refine (way_any a0 _).mono ?_
  rintro e w' ⟨rfl, rfl⟩
  rw [wayV]
  go_wp2_with fail
  refine (refway_any a0 _).mono ?_
  rintro e w' ⟨rfl, rfl⟩
  rw [wayV]
  go_wp2_with fail
  refine (extra_any a1 _).mono ?_
  rintro e w' ⟨rfl, rfl⟩
  go_wp2_with fail
  refine (refextra_any a1 _).mono ?_
  rintro e w' ⟨rfl, rfl⟩
  go_wp2_with fail
  refine (blocks_any a2 _ hw2).mono ?_
  rintro e w' ⟨rfl, rfl⟩
  go_wp2_with fail
  refine (refblocks_any a2 _ hw2).mono ?_
  rintro e w' ⟨rfl, rfl⟩
  go_wp2_with fail
  refine (within_any a0 0 275 _ (by omega) (by omega) (by omega)).mono ?_
  rintro e w' ⟨rfl, rfl⟩
  generalize within a0 0 275 = q at *
  go_wp2_with fail
  refine (way_any q _).mono ?_
  rintro e w' ⟨rfl, rfl⟩
  rw [wayV]
  go_wp2_with fail
  refine (back_way q _ hk.1 (by omega)).mono ?_
  rintro e w' ⟨rfl, rfl⟩
  go_wp2_with fail
  refine (bmap_known _).mono ?_
  rintro e w' ⟨rfl, rfl⟩
  go_wp2_with fail
  go_ret
  exact ⟨rfl, Below.refl _ _⟩
end Go.Proofs.Ytlmhlcdpapfeoaa
