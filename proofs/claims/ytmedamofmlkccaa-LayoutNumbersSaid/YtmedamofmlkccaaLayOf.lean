/- Contracts of layout.Of and of the chapter's runs (permafrostlaw19.known). -/
import Derived.Test.YtmedamofmlkccaaWithin
namespace Go.Proofs.Ytmedamofmlkccaa
open Go.RowKit

/-- how many segments a disk of n sectors has -/
def seg (n : Int) : Int := (n - 1 - 2 * (n / 4)) / 8
theorem seg_bd (n : Int) (h1 : 64 ≤ n) (h2 : n ≤ 4096) : 3 ≤ seg n ∧ seg n ≤ 4096 := by unfold seg; omega

def ofV (n : Int) : Value := if n < 64 ∨ 4096 < n then .tuple #[.agg #[.int .i64 0, .int .i64 0, .int .i64 0], .int .i64 1]
  else .tuple #[.agg #[.int .i64 n, .int .i64 (n / 4), .int .i64 (seg n)], .int .i64 0]

theorem of_any (n : Int) (w : World) :
    Calls Try.prog 48 #[.int .i64 n] w fun e w' => e = .returned (ofV n) ∧ Below w.heap.size w w' := by
  by_cases h1 : n < 64
  · go_enter Try.func48, Try.ntmps48
    go_wp2
    exact bodyPost_ret (v := .tuple #[.agg #[.int .i64 0, .int .i64 0, .int .i64 0], .int .i64 1]) (by simp [results, Try.results48, go_sem]) rfl ⟨by simp [ofV, h1], (Below.refl _ _).alloc (Nat.le_refl _) _⟩
  by_cases h2 : 4096 < n
  · go_enter Try.func48, Try.ntmps48
    go_wp2
    exact bodyPost_ret (v := .tuple #[.agg #[.int .i64 0, .int .i64 0, .int .i64 0], .int .i64 1]) (by simp [results, Try.results48, go_sem]) rfl ⟨by simp [ofV, h2], (Below.refl _ _).alloc (Nat.le_refl _) _⟩
  · go_enter Try.func48, Try.ntmps48
    go_wp2
    exact bodyPost_ret (v := .tuple #[.agg #[.int .i64 n, .int .i64 (n / 4), .int .i64 (seg n)], .int .i64 0]) (by simp [results, Try.results48, go_sem, seg]) rfl ⟨by simp [ofV, h1, h2], (Below.refl _ _).alloc (Nat.le_refl _) _⟩

theorem of_bad (n : Int) (w : World) (h : n < 64 ∨ 4096 < n) :
    Calls Try.prog 48 #[.int .i64 n] w fun e w' => e = .returned (.tuple #[.agg #[.int .i64 0, .int .i64 0, .int .i64 0], .int .i64 1]) ∧ Below w.heap.size w w' :=
  (of_any n w).mono fun _ _ ⟨h1, h2⟩ => ⟨by rw [h1, ofV, if_pos h], h2⟩
theorem of_ok (n : Int) (w : World) (h1 : 64 ≤ n) (h2 : n ≤ 4096) :
    Calls Try.prog 48 #[.int .i64 n] w fun e w' => e = .returned (.tuple #[.agg #[.int .i64 n, .int .i64 (n / 4), .int .i64 (seg n)], .int .i64 0]) ∧ Below w.heap.size w w' :=
  (of_any n w).mono fun _ _ ⟨h3, h4⟩ => ⟨by rw [h3, ofV, if_neg (by omega)], h4⟩

theorem layout_known (w : World) :
    Calls Try.prog 47 #[] w fun e w' => e = .returned (.bool true) ∧ Below w.heap.size w w' := by
  have H := Lib.hid (show seg 64 = 3 by decide)
  go_enter Try.func47, Try.ntmps47
  go_wp2_with fail
  refine (of_ok 64 _ (by omega) (by omega)).mono ?_
  rintro e w1 ⟨rfl, hb1⟩
  rw [H.out]
  obtain ⟨hc1, hf1⟩ := bcell hb1
  go_wp2_with fail
  refine (of_bad 63 _ (by omega)).mono ?_
  rintro e w2 ⟨rfl, hb2⟩
  obtain ⟨hc2, hf2⟩ := bcell hb2
  have hz2 : w1.heap.size < w2.heap.size := by have := hb2.size; simp at this; omega
  go_wp2_with fail
  go_ret
  exact ⟨rfl, (((((Ext.refl w).step hb1).alloc _).step hb2).alloc _).1⟩

end Go.Proofs.Ytmedamofmlkccaa
