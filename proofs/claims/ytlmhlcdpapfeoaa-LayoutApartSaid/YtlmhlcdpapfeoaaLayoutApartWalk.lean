/- The walk of permafrostlaw19.LayoutApart. -/
import Derived.Test.YtlmhlcdpapfeoaaLayPlan
namespace Go.Proofs.Ytlmhlcdpapfeoaa
open Go.RowKit

theorem LayoutApart_walk (a0 : Int) (w : World) (_w0 : (Lit.int .i64 a0).wf = true) :
    Calls Try.prog 8 #[.int .i64 a0] w fun e w' => e = .returned (.bool true) ∧ Below w.heap.size w w' := by
  have hA : 64 ≤ 64 + within a0 0 4032 ∧ 64 + within a0 0 4032 ≤ 4096 := by have := within_bd a0 0 4032 (by omega); omega
  go_enter Try.func8, Try.ntmps8
  go_wp2_with fail
  refine (within_any a0 0 4032 _ (by omega) (by omega) (by omega)).mono ?_
  rintro e w' ⟨rfl, rfl⟩
  go_wp2_with fail
  generalize 64 + within a0 0 4032 = m at *
  obtain ⟨hA1, hA2⟩ := hA
  refine (of_ok m _ (by omega) (by omega)).mono ?_
  rintro e w1 ⟨rfl, hb1⟩
  have hP : isPlan m (m / 4) (seg m) := ⟨hA1, hA2, rfl, rfl⟩
  have hs : 3 ≤ seg m ∧ 1 + 2 * (m / 4) + seg m * 8 ≤ m ∧ m - (1 + 2 * (m / 4) + seg m * 8) < 8 := by unfold seg; omega
  generalize seg m = g at *
  have hq : 16 ≤ m / 4 ∧ m / 4 ≤ 1024 := by omega
  generalize m / 4 = p at *
  obtain ⟨hs1, hs2, hs3⟩ := hs
  obtain ⟨hq1, hq2⟩ := hq
  go_wp2_with fail
  refine (point_ok m p g 0 _ hP (by omega) (by omega)).mono ?_
  rintro e w2 ⟨rfl, hb2⟩
  obtain ⟨hc2, hf2⟩ := bcell hb2
  rw [show (1 + 0 * p : Int) = 1 by omega]
  go_wp2_with fail
  refine (point_ok m p g 1 _ hP (by omega) (by omega)).mono ?_
  rintro e w3 ⟨rfl, hb3⟩
  rw [show (1 + 1 * p : Int) = 1 + p by omega]
  have hz1 : w1.heap.size < w2.heap.size := by have := hb2.size; simp at this; omega
  have hz2 : w1.heap.size < w3.heap.size := by have := hb3.size; omega
  have hp0 : w3.cell? ⟨w1.heap.size, 0, none⟩ = some (.int .i64 m) := by rw [hb3.cell (p := ⟨w1.heap.size, 0, none⟩) hz1, hc2 _ _ (by simp)]; simp
  have hp1 : w3.cell? ⟨w1.heap.size, 1, none⟩ = some (.int .i64 p) := by rw [hb3.cell (p := ⟨w1.heap.size, 1, none⟩) hz1, hc2 _ _ (by simp)]; simp
  have hp2 : w3.cell? ⟨w1.heap.size, 2, none⟩ = some (.int .i64 g) := by rw [hb3.cell (p := ⟨w1.heap.size, 2, none⟩) hz1, hc2 _ _ (by simp)]; simp
  have hE := (((Ext.refl w).step hb1).alloc (.cells #[.int .i64 m, .int .i64 p, .int .i64 g] 24)).step hb2 |>.step hb3
  clear hc2 hf2 hb1 hb2 hb3
  generalize w1.heap.size = B at *
  go_wp2_with fail
  go_loopw [10, 11] (fun n i wr => ∃ k : Int, 0 ≤ k ∧ k ≤ g ∧ i = .int .i64 k ∧ n = .int .i64 (1 + 2 * p + k * 8) ∧ Below w3.heap.size w3 wr) (fun _ i _ => (g - intOf i).toNat)
  case atStart => exact ⟨0, by omega, by omega, rfl, by congr 1; omega, Below.refl _ _⟩
  case round =>
    obtain ⟨k, hk0, hk1, rfl, rfl, hb⟩ := hrel
    have h0 := (hb.cell (p := ⟨B, 0, none⟩) hz2).trans hp0
    have h1 := (hb.cell (p := ⟨B, 1, none⟩) hz2).trans hp1
    have h2 := (hb.cell (p := ⟨B, 2, none⟩) hz2).trans hp2
    by_cases hlt : k < g
    · go_wp2_with fail
      refine (segment_ok m p g k _ hP (by omega) (by omega)).mono ?_
      rintro e w5 ⟨rfl, hb5⟩
      go_wp2_with fail
      go_roundw
      case rel => exact ⟨k + 1, by omega, by omega, rfl, by congr 1; omega, hb.trans (hb5.mono hb.size)⟩
      case measure => simp [intOf]; omega
    · obtain rfl : k = g := by omega
      go_wp2_with fail
      refine (layout_known _).mono ?_
      rintro e w5 ⟨rfl, hb5⟩
      go_wp2_with fail
      go_ret
      exact ⟨rfl, ((hE.step hb).step hb5).1⟩
end Go.Proofs.Ytlmhlcdpapfeoaa
