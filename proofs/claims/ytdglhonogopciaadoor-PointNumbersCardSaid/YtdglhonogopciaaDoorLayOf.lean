/- Contracts of layout.Of and of the chapter's runs (permafrostlaw19.known). -/
import Derived.Test.YtdglhonogopciaaDoorWithin
namespace Go.Proofs.YtdglhonogopciaaDoor
open Go.RowKit

/-- how many segments a disk of n sectors has -/
def seg (n : Int) : Int := (n - 1 - 2 * (n / 4)) / 8
theorem seg_bd (n : Int) (h1 : 64 ≤ n) (h2 : n ≤ 4096) : 3 ≤ seg n ∧ seg n ≤ 4096 := by unfold seg; omega

def ofV (n : Int) : Value := if n < 64 ∨ 4096 < n then .tuple #[.agg #[.int .i64 0, .int .i64 0, .int .i64 0], .int .i64 1]
  else .tuple #[.agg #[.int .i64 n, .int .i64 (n / 4), .int .i64 (seg n)], .int .i64 0]

theorem of_any (n : Int) (w : World) :
    Calls Tryd.prog 49 #[.int .i64 n] w fun e w' => e = .returned (ofV n) ∧ Below w.heap.size w w' := by
  by_cases h1 : n < 64
  · go_enter Tryd.func49, Tryd.ntmps49
    go_wp2
    exact bodyPost_ret (v := .tuple #[.agg #[.int .i64 0, .int .i64 0, .int .i64 0], .int .i64 1]) (by simp [results, Tryd.results49, go_sem]) rfl ⟨by simp [ofV, h1], (Below.refl _ _).alloc (Nat.le_refl _) _⟩
  by_cases h2 : 4096 < n
  · go_enter Tryd.func49, Tryd.ntmps49
    go_wp2
    exact bodyPost_ret (v := .tuple #[.agg #[.int .i64 0, .int .i64 0, .int .i64 0], .int .i64 1]) (by simp [results, Tryd.results49, go_sem]) rfl ⟨by simp [ofV, h2], (Below.refl _ _).alloc (Nat.le_refl _) _⟩
  · go_enter Tryd.func49, Tryd.ntmps49
    go_wp2
    exact bodyPost_ret (v := .tuple #[.agg #[.int .i64 n, .int .i64 (n / 4), .int .i64 (seg n)], .int .i64 0]) (by simp [results, Tryd.results49, go_sem, seg]) rfl ⟨by simp [ofV, h1, h2], (Below.refl _ _).alloc (Nat.le_refl _) _⟩

theorem of_bad (n : Int) (w : World) (h : n < 64 ∨ 4096 < n) :
    Calls Tryd.prog 49 #[.int .i64 n] w fun e w' => e = .returned (.tuple #[.agg #[.int .i64 0, .int .i64 0, .int .i64 0], .int .i64 1]) ∧ Below w.heap.size w w' :=
  (of_any n w).mono fun _ _ ⟨h1, h2⟩ => ⟨by rw [h1, ofV, if_pos h], h2⟩
theorem of_ok (n : Int) (w : World) (h1 : 64 ≤ n) (h2 : n ≤ 4096) :
    Calls Tryd.prog 49 #[.int .i64 n] w fun e w' => e = .returned (.tuple #[.agg #[.int .i64 n, .int .i64 (n / 4), .int .i64 (seg n)], .int .i64 0]) ∧ Below w.heap.size w w' :=
  (of_any n w).mono fun _ _ ⟨h3, h4⟩ => ⟨by rw [h3, ofV, if_neg (by omega)], h4⟩

end Go.Proofs.YtdglhonogopciaaDoor
