/- Contracts of layout.Right, layout.Point and layout.Segment. -/
import Derived.Test.YtmedamofmlkccaaLayOf
namespace Go.Proofs.Ytmedamofmlkccaa
open Go.RowKit

def isPlan (s p g : Int) : Prop := 64 ≤ s ∧ s ≤ 4096 ∧ p = s / 4 ∧ g = seg s
theorem isPlan.bd {s p g : Int} (h : isPlan s p g) : 16 ≤ p ∧ p ≤ 1024 ∧ 3 ≤ g ∧ g ≤ 4096 := by
  obtain ⟨h1, h2, rfl, rfl⟩ := h
  have := seg_bd s h1 h2
  omega

theorem right_ok (s p g : Int) (w : World) (h : isPlan s p g) :
    Calls Try.prog 85 #[.agg #[.int .i64 s, .int .i64 p, .int .i64 g]] w fun e w' => e = .returned (.bool true) ∧ Below w.heap.size w w' := by
  obtain ⟨h1, h2, rfl, rfl⟩ := h
  go_enter Try.func85, Try.ntmps85
  go_wp2_with fail
  refine (of_ok s _ h1 h2).mono ?_
  rintro e w1 ⟨rfl, hb1⟩
  obtain ⟨hc1, hf1⟩ := bcell hb1
  have hz1 : w.heap.size < w1.heap.size := by have := hb1.size; simp at this; omega
  go_wp2_with fail
  go_ret
  exact ⟨rfl, ((((Ext.refl w).alloc _).step hb1).alloc _).1⟩

theorem right_no (s p g : Int) (w : World) (h : ¬ isPlan s p g) :
    Calls Try.prog 85 #[.agg #[.int .i64 s, .int .i64 p, .int .i64 g]] w fun e w' => e = .returned (.bool false) ∧ Below w.heap.size w w' := by
  by_cases hs : s < 64 ∨ 4096 < s
  · go_enter Try.func85, Try.ntmps85
    go_wp2_with fail
    refine (of_bad s _ hs).mono ?_
    rintro e w1 ⟨rfl, hb1⟩
    obtain ⟨hc1, hf1⟩ := bcell hb1
    have hz1 : w.heap.size < w1.heap.size := by have := hb1.size; simp at this; omega
    go_wp2_with fail
    go_ret
    exact ⟨rfl, ((((Ext.refl w).alloc _).step hb1).alloc _).1⟩
  · have h1 : 64 ≤ s := by omega
    have h2 : s ≤ 4096 := by omega
    have hd : (p == s / 4) = false ∨ ((p == s / 4) = true ∧ (g == seg s) = false) := by
      simp only [beq_iff_eq, beq_eq_false_iff_ne]
      unfold isPlan at h
      omega
    clear h hs
    rcases hd with hd | ⟨hd, he⟩
    · go_enter Try.func85, Try.ntmps85
      go_wp2_with fail
      refine (of_ok s _ h1 h2).mono ?_
      rintro e w1 ⟨rfl, hb1⟩
      obtain ⟨hc1, hf1⟩ := bcell hb1
      have hz1 : w.heap.size < w1.heap.size := by have := hb1.size; simp at this; omega
      go_wp2_with fail
      go_ret
      exact ⟨rfl, ((((Ext.refl w).alloc _).step hb1).alloc _).1⟩
    · go_enter Try.func85, Try.ntmps85
      go_wp2_with fail
      refine (of_ok s _ h1 h2).mono ?_
      rintro e w1 ⟨rfl, hb1⟩
      obtain ⟨hc1, hf1⟩ := bcell hb1
      have hz1 : w.heap.size < w1.heap.size := by have := hb1.size; simp at this; omega
      go_wp2_with fail
      go_ret
      exact ⟨rfl, ((((Ext.refl w).alloc _).step hb1).alloc _).1⟩

theorem point_ok (s p g k : Int) (w : World) (h : isPlan s p g) (h0 : 0 ≤ k) (h1 : k < 2) :
    Calls Try.prog 78 #[.agg #[.int .i64 s, .int .i64 p, .int .i64 g], .int .i64 k] w fun e w' => e = .returned (.tuple #[.int .i64 (1 + k * p), .int .i64 0]) ∧ Below w.heap.size w w' := by
  have hb := h.bd
  obtain ⟨hb1, hb2, _, _⟩ := hb
  have h1' : decide (2 ≤ k) = false := by simp; omega
  have hm : k * p ≤ 1024 ∧ 0 ≤ k * p := by
    rcases (show k = 0 ∨ k = 1 by omega) with rfl | rfl <;> omega
  obtain ⟨hm1, hm2⟩ := hm
  go_enter Try.func78, Try.ntmps78
  go_wp2_with fail
  refine (right_ok s p g _ h).mono ?_
  rintro e w1 ⟨rfl, hbw⟩
  obtain ⟨hc1, hf1⟩ := bcell hbw
  go_wp2_with fail
  go_ret2
  exact ⟨rfl, (((Ext.refl w).alloc _).step hbw).1⟩

theorem point_no (s p g k : Int) (w : World) (h : ¬ isPlan s p g ∨ k < 0 ∨ 2 ≤ k) :
    Calls Try.prog 78 #[.agg #[.int .i64 s, .int .i64 p, .int .i64 g], .int .i64 k] w fun e w' => e = .returned (.tuple #[.int .i64 0, .int .i64 1]) ∧ Below w.heap.size w w' := by
  by_cases hp : isPlan s p g
  · rcases (show k < 0 ∨ 2 ≤ k from h.resolve_left (fun h => h hp)) with hk | hk
    all_goals
      go_enter Try.func78, Try.ntmps78
      go_wp2_with fail
      refine (right_ok s p g _ hp).mono ?_
      rintro e w1 ⟨rfl, hbw⟩
      go_wp2_with fail
      go_ret2
      exact ⟨rfl, (((Ext.refl w).alloc _).step hbw).1⟩
  · go_enter Try.func78, Try.ntmps78
    go_wp2_with fail
    refine (right_no s p g _ hp).mono ?_
    rintro e w1 ⟨rfl, hbw⟩
    go_wp2_with fail
    go_ret2
    exact ⟨rfl, (((Ext.refl w).alloc _).step hbw).1⟩

theorem segment_ok (s p g i : Int) (w : World) (h : isPlan s p g) (h0 : 0 ≤ i) (h1 : i < g) :
    Calls Try.prog 76 #[.agg #[.int .i64 s, .int .i64 p, .int .i64 g], .int .i64 i] w fun e w' => e = .returned (.tuple #[.int .i64 (1 + 2 * p + i * 8), .int .i64 0]) ∧ Below w.heap.size w w' := by
  have hb := h.bd
  obtain ⟨hb1, hb2, hb3, hb4⟩ := hb
  have h1' : decide (g ≤ i) = false := by simp; omega
  go_enter Try.func76, Try.ntmps76
  go_wp2_with fail
  refine (right_ok s p g _ h).mono ?_
  rintro e w1 ⟨rfl, hbw⟩
  obtain ⟨hc1, hf1⟩ := bcell hbw
  go_wp2_with fail
  go_ret2
  exact ⟨rfl, (((Ext.refl w).alloc _).step hbw).1⟩

theorem segment_no (s p g i : Int) (w : World) (h : ¬ isPlan s p g ∨ i < 0 ∨ g ≤ i) :
    Calls Try.prog 76 #[.agg #[.int .i64 s, .int .i64 p, .int .i64 g], .int .i64 i] w fun e w' => e = .returned (.tuple #[.int .i64 0, .int .i64 1]) ∧ Below w.heap.size w w' := by
  by_cases hp : isPlan s p g
  · obtain ⟨_, _, hb3, _⟩ := hp.bd
    rcases (show i < 0 ∨ g ≤ i from h.resolve_left (fun h => h hp)) with hk | hk
    all_goals
      go_enter Try.func76, Try.ntmps76
      go_wp2_with fail
      refine (right_ok s p g _ hp).mono ?_
      rintro e w1 ⟨rfl, hbw⟩
      obtain ⟨hc1, hf1⟩ := bcell hbw
      go_wp2_with fail
      go_ret2
      exact ⟨rfl, (((Ext.refl w).alloc _).step hbw).1⟩
  · go_enter Try.func76, Try.ntmps76
    go_wp2_with fail
    refine (right_no s p g _ hp).mono ?_
    rintro e w1 ⟨rfl, hbw⟩
    go_wp2_with fail
    go_ret2
    exact ⟨rfl, (((Ext.refl w).alloc _).step hbw).1⟩
end Go.Proofs.Ytmedamofmlkccaa
