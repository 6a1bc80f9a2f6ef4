/- Contracts of the document's Of, Right, Point and Segment of chapter 19. -/
import Derived.Test.YtdglhonogopciaaDoorLayPlan
namespace Go.Proofs.YtdglhonogopciaaDoor
open Go.RowKit

theorem rof_any (n : Int) (w : World) :
    Calls Tryd.prog 22 #[.int .i64 n] w fun e w' => e = .returned (ofV n) ∧ Below w.heap.size w w' := by
  by_cases h1 : n < 64
  · go_enter Tryd.func22, Tryd.ntmps22
    go_wp2
    exact bodyPost_ret (v := .tuple #[.agg #[.int .i64 0, .int .i64 0, .int .i64 0], .int .i64 1]) (by simp [results, Tryd.results22, go_sem]) rfl ⟨by simp [ofV, h1], (Below.refl _ _).alloc (Nat.le_refl _) _⟩
  by_cases h2 : 4096 < n
  · go_enter Tryd.func22, Tryd.ntmps22
    go_wp2
    exact bodyPost_ret (v := .tuple #[.agg #[.int .i64 0, .int .i64 0, .int .i64 0], .int .i64 1]) (by simp [results, Tryd.results22, go_sem]) rfl ⟨by simp [ofV, h2], (Below.refl _ _).alloc (Nat.le_refl _) _⟩
  · go_enter Tryd.func22, Tryd.ntmps22
    go_wp2
    exact bodyPost_ret (v := .tuple #[.agg #[.int .i64 n, .int .i64 (n / 4), .int .i64 (seg n)], .int .i64 0]) (by simp [results, Tryd.results22, go_sem, seg]) rfl ⟨by simp [ofV, h1, h2], (Below.refl _ _).alloc (Nat.le_refl _) _⟩

theorem rof_bad (n : Int) (w : World) (h : n < 64 ∨ 4096 < n) :
    Calls Tryd.prog 22 #[.int .i64 n] w fun e w' => e = .returned (.tuple #[.agg #[.int .i64 0, .int .i64 0, .int .i64 0], .int .i64 1]) ∧ Below w.heap.size w w' :=
  (rof_any n w).mono fun _ _ ⟨h1, h2⟩ => ⟨by rw [h1, ofV, if_pos h], h2⟩
theorem rof_ok (n : Int) (w : World) (h1 : 64 ≤ n) (h2 : n ≤ 4096) :
    Calls Tryd.prog 22 #[.int .i64 n] w fun e w' => e = .returned (.tuple #[.agg #[.int .i64 n, .int .i64 (n / 4), .int .i64 (seg n)], .int .i64 0]) ∧ Below w.heap.size w w' :=
  (rof_any n w).mono fun _ _ ⟨h3, h4⟩ => ⟨by rw [h3, ofV, if_neg (by omega)], h4⟩

theorem lrright_ok (s p g : Int) (w : World) (h : isPlan s p g) :
    Calls Tryd.prog 23 #[.agg #[.int .i64 s, .int .i64 p, .int .i64 g]] w fun e w' => e = .returned (.bool true) ∧ Below w.heap.size w w' := by
  obtain ⟨h1, h2, rfl, rfl⟩ := h
  go_enter Tryd.func23, Tryd.ntmps23
  go_wp2_with fail
  refine (rof_ok s _ h1 h2).mono ?_
  rintro e w1 ⟨rfl, hb1⟩
  obtain ⟨hc1, hf1⟩ := bcell hb1
  have hz1 : w.heap.size < w1.heap.size := by have := hb1.size; simp at this; omega
  go_wp2_with fail
  go_ret
  exact ⟨rfl, ((((Ext.refl w).alloc _).step hb1).alloc _).1⟩

theorem lrright_no (s p g : Int) (w : World) (h : ¬ isPlan s p g) :
    Calls Tryd.prog 23 #[.agg #[.int .i64 s, .int .i64 p, .int .i64 g]] w fun e w' => e = .returned (.bool false) ∧ Below w.heap.size w w' := by
  by_cases hs : s < 64 ∨ 4096 < s
  · go_enter Tryd.func23, Tryd.ntmps23
    go_wp2_with fail
    refine (rof_bad s _ hs).mono ?_
    rintro e w1 ⟨rfl, hb1⟩
    obtain ⟨hc1, hf1⟩ := bcell hb1
    have hz1 : w.heap.size < w1.heap.size := by have := hb1.size; simp at this; omega
    go_wp2_with fail
    go_ret
    exact ⟨rfl, ((((Ext.refl w).alloc _).step hb1).alloc _).1⟩
  · have h1 : 64 ≤ s := by omega
    have h2 : s ≤ 4096 := by omega
    have hd : (s / 4 == p) = false ∨ ((s / 4 == p) = true ∧ (seg s == g) = false) := by
      simp only [beq_iff_eq, beq_eq_false_iff_ne]
      unfold isPlan at h
      omega
    clear h hs
    rcases hd with hd | ⟨hd, he⟩
    · go_enter Tryd.func23, Tryd.ntmps23
      go_wp2_with fail
      refine (rof_ok s _ h1 h2).mono ?_
      rintro e w1 ⟨rfl, hb1⟩
      obtain ⟨hc1, hf1⟩ := bcell hb1
      have hz1 : w.heap.size < w1.heap.size := by have := hb1.size; simp at this; omega
      go_wp2_with fail
      go_ret
      exact ⟨rfl, ((((Ext.refl w).alloc _).step hb1).alloc _).1⟩
    · go_enter Tryd.func23, Tryd.ntmps23
      go_wp2_with fail
      refine (rof_ok s _ h1 h2).mono ?_
      rintro e w1 ⟨rfl, hb1⟩
      obtain ⟨hc1, hf1⟩ := bcell hb1
      have hz1 : w.heap.size < w1.heap.size := by have := hb1.size; simp at this; omega
      go_wp2_with fail
      go_ret
      exact ⟨rfl, ((((Ext.refl w).alloc _).step hb1).alloc _).1⟩

end Go.Proofs.YtdglhonogopciaaDoor
