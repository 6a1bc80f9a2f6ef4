/- The walk of permafrostlaw19.LayoutGrows. -/
import Derived.Test.YtlmhlcdpapfeoaaLayOf
namespace Go.Proofs.Ytlmhlcdpapfeoaa
open Go.RowKit

theorem LayoutGrows_walk (a0 : Int) (a1 : Int) (w : World) (_w0 : (Lit.int .i64 a0).wf = true) (_w1 : (Lit.int .i64 a1).wf = true) :
    Calls Try.prog 3 #[.int .i64 a0, .int .i64 a1] w fun e w' => e = .returned (.bool true) ∧ Below w.heap.size w w' := by
  have hA : 64 ≤ 64 + within a0 0 4032 ∧ 64 + within a0 0 4032 ≤ 4096 := by have := within_bd a0 0 4032 (by omega); omega
  go_enter Try.func3, Try.ntmps3
  go_wp2_with fail
  refine (within_any a0 0 4032 _ (by omega) (by omega) (by omega)).mono ?_
  rintro e w' ⟨rfl, rfl⟩
  go_wp2_with fail
  generalize 64 + within a0 0 4032 = A at *
  obtain ⟨hA1, hA2⟩ := hA
  have hB : A ≤ A + within a1 0 (4096 - A) ∧ A + within a1 0 (4096 - A) ≤ 4096 := by have := within_bd a1 0 (4096 - A) (by omega); omega
  refine (within_any a1 0 (4096 - A) _ (by omega) (by omega) (by omega)).mono ?_
  rintro e w' ⟨rfl, rfl⟩
  go_wp2_with fail
  generalize A + within a1 0 (4096 - A) = B at *
  obtain ⟨hB1, hB2⟩ := hB
  refine (of_ok A _ (by omega) (by omega)).mono ?_
  rintro e w1 ⟨rfl, hb1⟩
  obtain ⟨hc1, hf1⟩ := bcell hb1
  go_wp2_with fail
  refine (of_ok B _ (by omega) (by omega)).mono ?_
  rintro e w2 ⟨rfl, hb2⟩
  obtain ⟨hc2, hf2⟩ := bcell hb2
  have hz2 : w1.heap.size < w2.heap.size := by have := hb2.size; simp at this; omega
  have hs1 : seg A ≤ seg B + 1 := by unfold seg; omega
  have hs2 : ¬ B < A + 16 → seg A ≤ seg B := by unfold seg; omega
  have hs3 := (seg_bd A (by omega) (by omega)).2
  have hs4 := (seg_bd B (by omega) (by omega)).2
  have hs5 := (seg_bd A (by omega) (by omega)).1
  have hs6 := (seg_bd B (by omega) (by omega)).1
  have hq : A / 4 ≤ B / 4 := by omega
  by_cases h : B < A + 16
  · clear hs2
    go_wp2_with fail
    refine (layout_known _).mono ?_
    rintro e w3 ⟨rfl, hb3⟩
    go_wp2_with fail
    go_ret
    exact ⟨rfl, ((((((Ext.refl w).step hb1).alloc _).step hb2).alloc _).step hb3).1⟩
  · replace hs2 := hs2 h
    have hd : decide (B < A + 16) = false := by simpa using h
    go_wp2_with fail
    refine (layout_known _).mono ?_
    rintro e w3 ⟨rfl, hb3⟩
    go_wp2_with fail
    go_ret
    exact ⟨rfl, ((((((Ext.refl w).step hb1).alloc _).step hb2).alloc _).step hb3).1⟩

end Go.Proofs.Ytlmhlcdpapfeoaa
