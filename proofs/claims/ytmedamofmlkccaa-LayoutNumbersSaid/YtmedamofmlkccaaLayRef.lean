/- Contracts of the document's Of, Right, Point and Segment of chapter 19. -/
import Derived.Test.YtmedamofmlkccaaLayPlan
namespace Go.Proofs.Ytmedamofmlkccaa
open Go.RowKit

theorem rof_any (n : Int) (w : World) :
    Calls Try.prog 49 #[.int .i64 n] w fun e w' => e = .returned (ofV n) ∧ Below w.heap.size w w' := by
  by_cases h1 : n < 64
  · go_enter Try.func49, Try.ntmps49
    go_wp2
    exact bodyPost_ret (v := .tuple #[.agg #[.int .i64 0, .int .i64 0, .int .i64 0], .int .i64 1]) (by simp [results, Try.results49, go_sem]) rfl ⟨by simp [ofV, h1], (Below.refl _ _).alloc (Nat.le_refl _) _⟩
  by_cases h2 : 4096 < n
  · go_enter Try.func49, Try.ntmps49
    go_wp2
    exact bodyPost_ret (v := .tuple #[.agg #[.int .i64 0, .int .i64 0, .int .i64 0], .int .i64 1]) (by simp [results, Try.results49, go_sem]) rfl ⟨by simp [ofV, h2], (Below.refl _ _).alloc (Nat.le_refl _) _⟩
  · go_enter Try.func49, Try.ntmps49
    go_wp2
    exact bodyPost_ret (v := .tuple #[.agg #[.int .i64 n, .int .i64 (n / 4), .int .i64 (seg n)], .int .i64 0]) (by simp [results, Try.results49, go_sem, seg]) rfl ⟨by simp [ofV, h1, h2], (Below.refl _ _).alloc (Nat.le_refl _) _⟩

theorem rof_bad (n : Int) (w : World) (h : n < 64 ∨ 4096 < n) :
    Calls Try.prog 49 #[.int .i64 n] w fun e w' => e = .returned (.tuple #[.agg #[.int .i64 0, .int .i64 0, .int .i64 0], .int .i64 1]) ∧ Below w.heap.size w w' :=
  (rof_any n w).mono fun _ _ ⟨h1, h2⟩ => ⟨by rw [h1, ofV, if_pos h], h2⟩
theorem rof_ok (n : Int) (w : World) (h1 : 64 ≤ n) (h2 : n ≤ 4096) :
    Calls Try.prog 49 #[.int .i64 n] w fun e w' => e = .returned (.tuple #[.agg #[.int .i64 n, .int .i64 (n / 4), .int .i64 (seg n)], .int .i64 0]) ∧ Below w.heap.size w w' :=
  (rof_any n w).mono fun _ _ ⟨h3, h4⟩ => ⟨by rw [h3, ofV, if_neg (by omega)], h4⟩

theorem lrright_ok (s p g : Int) (w : World) (h : isPlan s p g) :
    Calls Try.prog 86 #[.agg #[.int .i64 s, .int .i64 p, .int .i64 g]] w fun e w' => e = .returned (.bool true) ∧ Below w.heap.size w w' := by
  obtain ⟨h1, h2, rfl, rfl⟩ := h
  go_enter Try.func86, Try.ntmps86
  go_wp2_with fail
  refine (rof_ok s _ h1 h2).mono ?_
  rintro e w1 ⟨rfl, hb1⟩
  obtain ⟨hc1, hf1⟩ := bcell hb1
  have hz1 : w.heap.size < w1.heap.size := by have := hb1.size; simp at this; omega
  go_wp2_with fail
  go_ret
  exact ⟨rfl, ((((Ext.refl w).alloc _).step hb1).alloc _).1⟩

theorem lrright_no (s p g : Int) (w : World) (h : ¬ isPlan s p g) :
    Calls Try.prog 86 #[.agg #[.int .i64 s, .int .i64 p, .int .i64 g]] w fun e w' => e = .returned (.bool false) ∧ Below w.heap.size w w' := by
  by_cases hs : s < 64 ∨ 4096 < s
  · go_enter Try.func86, Try.ntmps86
    go_wp2_with fail
    refine (rof_bad s _ hs).mono ?_
    rintro e w1 ⟨rfl, hb1⟩
    obtain ⟨hc1, hf1⟩ := bcell hb1
    have hz1 : w.heap.size < w1.heap.size := by have := hb1.size; simp at this; omega
    go_wp2_with fail
    go_ret
    exact ⟨rfl, ((((Ext.refl w).alloc _).step hb1).alloc _).1⟩
  · have h1 : 64 ≤ s := by omega
    have h2 : s ≤ 4096 := by omega
    have hd : (s / 4 == p) = false ∨ ((s / 4 == p) = true ∧ (seg s == g) = false) := by
      simp only [beq_iff_eq, beq_eq_false_iff_ne]
      unfold isPlan at h
      omega
    clear h hs
    rcases hd with hd | ⟨hd, he⟩
    · go_enter Try.func86, Try.ntmps86
      go_wp2_with fail
      refine (rof_ok s _ h1 h2).mono ?_
      rintro e w1 ⟨rfl, hb1⟩
      obtain ⟨hc1, hf1⟩ := bcell hb1
      have hz1 : w.heap.size < w1.heap.size := by have := hb1.size; simp at this; omega
      go_wp2_with fail
      go_ret
      exact ⟨rfl, ((((Ext.refl w).alloc _).step hb1).alloc _).1⟩
    · go_enter Try.func86, Try.ntmps86
      go_wp2_with fail
      refine (rof_ok s _ h1 h2).mono ?_
      rintro e w1 ⟨rfl, hb1⟩
      obtain ⟨hc1, hf1⟩ := bcell hb1
      have hz1 : w.heap.size < w1.heap.size := by have := hb1.size; simp at this; omega
      go_wp2_with fail
      go_ret
      exact ⟨rfl, ((((Ext.refl w).alloc _).step hb1).alloc _).1⟩

theorem rpoint_ok (s p g k : Int) (w : World) (h : isPlan s p g) (h0 : 0 ≤ k) (h1 : k < 2) :
    Calls Try.prog 79 #[.agg #[.int .i64 s, .int .i64 p, .int .i64 g], .int .i64 k] w fun e w' => e = .returned (.tuple #[.int .i64 (1 + k * p), .int .i64 0]) ∧ Below w.heap.size w w' := by
  have hb := h.bd
  obtain ⟨hb1, hb2, _, _⟩ := hb
  have h1' : decide (2 ≤ k) = false := by simp; omega
  have hm : k * p ≤ 1024 ∧ 0 ≤ k * p := by
    rcases (show k = 0 ∨ k = 1 by omega) with rfl | rfl <;> omega
  obtain ⟨hm1, hm2⟩ := hm
  go_enter Try.func79, Try.ntmps79
  go_wp2_with fail
  refine (lrright_ok s p g _ h).mono ?_
  rintro e w1 ⟨rfl, hbw⟩
  obtain ⟨hc1, hf1⟩ := bcell hbw
  go_wp2_with fail
  go_ret2
  exact ⟨rfl, (((Ext.refl w).alloc _).step hbw).1⟩

theorem rpoint_no (s p g k : Int) (w : World) (h : ¬ isPlan s p g ∨ k < 0 ∨ 2 ≤ k) :
    Calls Try.prog 79 #[.agg #[.int .i64 s, .int .i64 p, .int .i64 g], .int .i64 k] w fun e w' => e = .returned (.tuple #[.int .i64 0, .int .i64 1]) ∧ Below w.heap.size w w' := by
  by_cases hp : isPlan s p g
  · rcases (show k < 0 ∨ 2 ≤ k from h.resolve_left (fun h => h hp)) with hk | hk
    all_goals
      go_enter Try.func79, Try.ntmps79
      go_wp2_with fail
      refine (lrright_ok s p g _ hp).mono ?_
      rintro e w1 ⟨rfl, hbw⟩
      go_wp2_with fail
      go_ret2
      exact ⟨rfl, (((Ext.refl w).alloc _).step hbw).1⟩
  · go_enter Try.func79, Try.ntmps79
    go_wp2_with fail
    refine (lrright_no s p g _ hp).mono ?_
    rintro e w1 ⟨rfl, hbw⟩
    go_wp2_with fail
    go_ret2
    exact ⟨rfl, (((Ext.refl w).alloc _).step hbw).1⟩

theorem rsegment_ok (s p g i : Int) (w : World) (h : isPlan s p g) (h0 : 0 ≤ i) (h1 : i < g) :
    Calls Try.prog 77 #[.agg #[.int .i64 s, .int .i64 p, .int .i64 g], .int .i64 i] w fun e w' => e = .returned (.tuple #[.int .i64 (1 + 2 * p + i * 8), .int .i64 0]) ∧ Below w.heap.size w w' := by
  have hb := h.bd
  obtain ⟨hb1, hb2, hb3, hb4⟩ := hb
  have h1' : decide (g ≤ i) = false := by simp; omega
  go_enter Try.func77, Try.ntmps77
  go_wp2_with fail
  refine (lrright_ok s p g _ h).mono ?_
  rintro e w1 ⟨rfl, hbw⟩
  obtain ⟨hc1, hf1⟩ := bcell hbw
  go_wp2_with fail
  go_ret2
  exact ⟨rfl, (((Ext.refl w).alloc _).step hbw).1⟩

theorem rsegment_no (s p g i : Int) (w : World) (h : ¬ isPlan s p g ∨ i < 0 ∨ g ≤ i) :
    Calls Try.prog 77 #[.agg #[.int .i64 s, .int .i64 p, .int .i64 g], .int .i64 i] w fun e w' => e = .returned (.tuple #[.int .i64 0, .int .i64 1]) ∧ Below w.heap.size w w' := by
  by_cases hp : isPlan s p g
  · obtain ⟨_, _, hb3, _⟩ := hp.bd
    rcases (show i < 0 ∨ g ≤ i from h.resolve_left (fun h => h hp)) with hk | hk
    all_goals
      go_enter Try.func77, Try.ntmps77
      go_wp2_with fail
      refine (lrright_ok s p g _ hp).mono ?_
      rintro e w1 ⟨rfl, hbw⟩
      obtain ⟨hc1, hf1⟩ := bcell hbw
      go_wp2_with fail
      go_ret2
      exact ⟨rfl, (((Ext.refl w).alloc _).step hbw).1⟩
  · go_enter Try.func77, Try.ntmps77
    go_wp2_with fail
    refine (lrright_no s p g _ hp).mono ?_
    rintro e w1 ⟨rfl, hbw⟩
    go_wp2_with fail
    go_ret2
    exact ⟨rfl, (((Ext.refl w).alloc _).step hbw).1⟩
end Go.Proofs.Ytmedamofmlkccaa
