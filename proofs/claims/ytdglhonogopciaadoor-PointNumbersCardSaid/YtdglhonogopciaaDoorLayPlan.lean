/- Contracts of layout.Right, layout.Point and layout.Segment. -/
import Derived.Test.YtdglhonogopciaaDoorLayOf
namespace Go.Proofs.YtdglhonogopciaaDoor
open Go.RowKit

def isPlan (s p g : Int) : Prop := 64 ≤ s ∧ s ≤ 4096 ∧ p = s / 4 ∧ g = seg s
theorem isPlan.bd {s p g : Int} (h : isPlan s p g) : 16 ≤ p ∧ p ≤ 1024 ∧ 3 ≤ g ∧ g ≤ 4096 := by
  obtain ⟨h1, h2, rfl, rfl⟩ := h
  have := seg_bd s h1 h2
  omega

theorem right_ok (s p g : Int) (w : World) (h : isPlan s p g) :
    Calls Tryd.prog 30 #[.agg #[.int .i64 s, .int .i64 p, .int .i64 g]] w fun e w' => e = .returned (.bool true) ∧ Below w.heap.size w w' := by
  obtain ⟨h1, h2, rfl, rfl⟩ := h
  go_enter Tryd.func30, Tryd.ntmps30
  go_wp2_with fail
  refine (of_ok s _ h1 h2).mono ?_
  rintro e w1 ⟨rfl, hb1⟩
  obtain ⟨hc1, hf1⟩ := bcell hb1
  have hz1 : w.heap.size < w1.heap.size := by have := hb1.size; simp at this; omega
  go_wp2_with fail
  go_ret
  exact ⟨rfl, ((((Ext.refl w).alloc _).step hb1).alloc _).1⟩

theorem right_no (s p g : Int) (w : World) (h : ¬ isPlan s p g) :
    Calls Tryd.prog 30 #[.agg #[.int .i64 s, .int .i64 p, .int .i64 g]] w fun e w' => e = .returned (.bool false) ∧ Below w.heap.size w w' := by
  by_cases hs : s < 64 ∨ 4096 < s
  · go_enter Tryd.func30, Tryd.ntmps30
    go_wp2_with fail
    refine (of_bad s _ hs).mono ?_
    rintro e w1 ⟨rfl, hb1⟩
    obtain ⟨hc1, hf1⟩ := bcell hb1
    have hz1 : w.heap.size < w1.heap.size := by have := hb1.size; simp at this; omega
    go_wp2_with fail
    go_ret
    exact ⟨rfl, ((((Ext.refl w).alloc _).step hb1).alloc _).1⟩
  · have h1 : 64 ≤ s := by omega
    have h2 : s ≤ 4096 := by omega
    have hd : (p == s / 4) = false ∨ ((p == s / 4) = true ∧ (g == seg s) = false) := by
      simp only [beq_iff_eq, beq_eq_false_iff_ne]
      unfold isPlan at h
      omega
    clear h hs
    rcases hd with hd | ⟨hd, he⟩
    · go_enter Tryd.func30, Tryd.ntmps30
      go_wp2_with fail
      refine (of_ok s _ h1 h2).mono ?_
      rintro e w1 ⟨rfl, hb1⟩
      obtain ⟨hc1, hf1⟩ := bcell hb1
      have hz1 : w.heap.size < w1.heap.size := by have := hb1.size; simp at this; omega
      go_wp2_with fail
      go_ret
      exact ⟨rfl, ((((Ext.refl w).alloc _).step hb1).alloc _).1⟩
    · go_enter Tryd.func30, Tryd.ntmps30
      go_wp2_with fail
      refine (of_ok s _ h1 h2).mono ?_
      rintro e w1 ⟨rfl, hb1⟩
      obtain ⟨hc1, hf1⟩ := bcell hb1
      have hz1 : w.heap.size < w1.heap.size := by have := hb1.size; simp at this; omega
      go_wp2_with fail
      go_ret
      exact ⟨rfl, ((((Ext.refl w).alloc _).step hb1).alloc _).1⟩

end Go.Proofs.YtdglhonogopciaaDoor
