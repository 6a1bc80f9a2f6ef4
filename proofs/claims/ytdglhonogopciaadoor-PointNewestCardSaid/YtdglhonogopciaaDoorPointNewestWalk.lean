/- The walk of PointNewest. -/
import Derived.Test.YtdglhonogopciaaDoorPtKnown
import Derived.Test.YtdglhonogopciaaDoorArg
namespace Go.Proofs.YtdglhonogopciaaDoor
open Go.RowKit

set_option maxHeartbeats 1000000 in
set_option maxRecDepth 100000 in
theorem pnew_case (a b : Nat) (fa fb : Bool) (w : World) (ra rb : Int)
    (h1 : (if fa = true ∧ (fb = false ∨ b ≤ a) then (0 : Int) else if fb = true then 1 else 0) = ra) (h2 : (if fb = true ∧ (fa = false ∨ a ≤ b) then (0 : Int) else if fa = true then 1 else 0) = rb) :
    Calls Tryd.prog 3 #[.int .u64 (a : Int), .int .u64 (b : Int), .bool fa, .bool fb] w fun e w' => e = .returned (.bool true) ∧ Below w.heap.size w w' := by
  have H1 := Lib.hid (fun w => newer_any ⟨a, 0, 0, [], []⟩ ⟨b, 0, 0, [], []⟩ none none none none 0 0 0 0 0 0 0 0 fa fb w)
  have H2 := Lib.hid (fun w => newer_any ⟨b, 0, 0, [], []⟩ ⟨a, 0, 0, [], []⟩ none none none none 0 0 0 0 0 0 0 0 fb fa w)
  simp only [h1] at H1
  simp only [h2] at H2
  have hE := ((Ext.refl w).alloc (.cells #[.int .u64 (a : Int), .int .u64 0, .int .i64 0, .slice none 0 0, .slice none 0 0] 25)).alloc (.cells #[.int .u64 (b : Int), .int .u64 0, .int .i64 0, .slice none 0 0, .slice none 0 0] 25)
  have hA : AtC ((w.alloc (.cells #[.int .u64 (a : Int), .int .u64 0, .int .i64 0, .slice none 0 0, .slice none 0 0] 25)).alloc (.cells #[.int .u64 (b : Int), .int .u64 0, .int .i64 0, .slice none 0 0, .slice none 0 0] 25)) w.heap.size (.cells #[.int .u64 (a : Int), .int .u64 0, .int .i64 0, .slice none 0 0, .slice none 0 0] 25 (0, 0)) := (Below.heap_alloc (w.alloc (.cells #[.int .u64 (a : Int), .int .u64 0, .int .i64 0, .slice none 0 0, .slice none 0 0] 25)) _ w.heap.size (by simp)).trans (heap_alloc_new w _)
  have hB : AtC ((w.alloc (.cells #[.int .u64 (a : Int), .int .u64 0, .int .i64 0, .slice none 0 0, .slice none 0 0] 25)).alloc (.cells #[.int .u64 (b : Int), .int .u64 0, .int .i64 0, .slice none 0 0, .slice none 0 0] 25)) (w.heap.size + 1) (.cells #[.int .u64 (b : Int), .int .u64 0, .int .i64 0, .slice none 0 0, .slice none 0 0] 25 (0, 0)) := by
    have := heap_alloc_new (w.alloc (.cells #[.int .u64 (a : Int), .int .u64 0, .int .i64 0, .slice none 0 0, .slice none 0 0] 25)) (.cells #[.int .u64 (b : Int), .int .u64 0, .int .i64 0, .slice none 0 0, .slice none 0 0] 25)
    rw [World.size_alloc] at this
    exact this
  obtain ⟨H, hH⟩ : ∃ H, H = w.heap.size := ⟨_, rfl⟩
  rw [← hH] at hE hA hB ⊢
  have HH := Lib.hid hH
  have HW := Lib.hid (And.intro hE (And.intro hA hB))
  clear hE hA hB hH
  go_enter Tryd.func3, Tryd.ntmps3
  go_wp2_with fail
  rw [← HH.out]
  obtain ⟨hE, hA, hB⟩ := HW.out
  clear HW
  generalize ((w.alloc (.cells #[.int .u64 (a : Int), .int .u64 0, .int .i64 0, .slice none 0 0, .slice none 0 0] 25)).alloc (.cells #[.int .u64 (b : Int), .int .u64 0, .int .i64 0, .slice none 0 0, .slice none 0 0] 25)) = w0 at *
  refine (H1.out _).mono ?_
  rintro e w1 ⟨rfl, hb⟩
  replace hE := hE.step hb
  replace hA := hA.below hb
  replace hB := hB.below hb
  have a0 := cells_at hA 0
  have a1 := cells_at hA 1
  have a2 := cells_at hA 2
  have a3 := cells_at hA 3
  have a4 := cells_at hA 4
  have b0 := cells_at hB 0
  have b1 := cells_at hB 1
  have b2 := cells_at hB 2
  have b3 := cells_at hB 3
  have b4 := cells_at hB 4
  simp only [List.getElem?_toArray, List.getElem?_cons_zero, List.getElem?_cons_succ] at a0 a1 a2 a3 a4 b0 b1 b2 b3 b4
  clear hb hA hB H1
  go_wp2_with fail
  refine (H2.out _).mono ?_
  rintro e w2 ⟨rfl, hb⟩
  replace hE := hE.step hb
  clear hb H2 a0 a1 a2 a3 a4 b0 b1 b2 b3 b4
  cases fa <;> cases fb
  · obtain rfl : ra = 0 := by rw [← h1]; simp
    obtain rfl : rb = 0 := by rw [← h2]; simp
    clear h1 h2
    go_wp2_with fail
    refine (pt_known _).mono ?_
    rintro e w3 ⟨rfl, hb⟩
    go_wp2_with fail
    go_ret
    exact ⟨rfl, (hE.step hb).1⟩
  · obtain rfl : ra = 1 := by rw [← h1]; simp
    obtain rfl : rb = 0 := by rw [← h2]; simp
    clear h1 h2
    go_wp2_with fail
    refine (pt_known _).mono ?_
    rintro e w3 ⟨rfl, hb⟩
    go_wp2_with fail
    go_ret
    exact ⟨rfl, (hE.step hb).1⟩
  · obtain rfl : ra = 0 := by rw [← h1]; simp
    obtain rfl : rb = 1 := by rw [← h2]; simp
    clear h1 h2
    go_wp2_with fail
    refine (pt_known _).mono ?_
    rintro e w3 ⟨rfl, hb⟩
    go_wp2_with fail
    go_ret
    exact ⟨rfl, (hE.step hb).1⟩
  · rcases Nat.lt_trichotomy a b with hlt | heq | hgt
    · have g1 : ¬ (b : Int) ≤ (a : Int) := by omega
      have g2 : (a : Int) ≤ (b : Int) := by omega
      obtain rfl : ra = 1 := by rw [← h1]; simp <;> omega
      obtain rfl : rb = 0 := by rw [← h2]; simp <;> omega
      clear h1 h2
      go_wp2_with fail
      refine (pt_known _).mono ?_
      rintro e w3 ⟨rfl, hb⟩
      go_wp2_with fail
      go_ret
      refine ⟨?_, (hE.step hb).1⟩
      first
        | rfl
        | (show Ending.returned (Value.bool _) = _; exact ret_bool (by simp; omega))
    · subst heq
      obtain rfl : ra = 0 := by rw [← h1]; simp <;> omega
      obtain rfl : rb = 0 := by rw [← h2]; simp <;> omega
      clear h1 h2
      go_wp2_with fail
      refine (pt_known _).mono ?_
      rintro e w3 ⟨rfl, hb⟩
      go_wp2_with fail
      go_ret
      refine ⟨?_, (hE.step hb).1⟩
      first
        | rfl
        | (show Ending.returned (Value.bool _) = _; exact ret_bool (by simp; omega))
    · have g1 : (b : Int) ≤ (a : Int) := by omega
      have g2 : ¬ (a : Int) ≤ (b : Int) := by omega
      obtain rfl : ra = 0 := by rw [← h1]; simp <;> omega
      obtain rfl : rb = 1 := by rw [← h2]; simp <;> omega
      clear h1 h2
      go_wp2_with fail
      refine (pt_known _).mono ?_
      rintro e w3 ⟨rfl, hb⟩
      go_wp2_with fail
      go_ret
      refine ⟨?_, (hE.step hb).1⟩
      first
        | rfl
        | (show Ending.returned (Value.bool _) = _; exact ret_bool (by simp; omega))
theorem PointNewest_walk (v0 v1 v2 v3 : Value) (w : World) (h0 : Arg Tryd.prog w 22 v0) (h1 : Arg Tryd.prog w 22 v1) (h2 : Arg Tryd.prog w 4 v2) (h3 : Arg Tryd.prog w 4 v3) :
    Calls Tryd.prog 3 #[v0, v1, v2, v3] w fun e w' => e = .returned (.bool true) ∧ Below w.heap.size w w' := by
  obtain ⟨a, rfl, wa⟩ := h0.int Tryd.underlying22
  obtain ⟨b, rfl, wb⟩ := h1.int Tryd.underlying22
  obtain ⟨fa, rfl⟩ := h2.bool Tryd.underlying4
  obtain ⟨fb, rfl⟩ := h3.bool Tryd.underlying4
  have ha : 0 ≤ a := by simp [Lit.wf, IntKind.min, IntKind.max, IntKind.bits, IntKind.signed] at wa; omega
  have hb : 0 ≤ b := by simp [Lit.wf, IntKind.min, IntKind.max, IntKind.bits, IntKind.signed] at wb; omega
  obtain ⟨m, rfl⟩ : ∃ m : Nat, a = (m : Int) := ⟨a.toNat, by omega⟩
  obtain ⟨n, rfl⟩ : ∃ n : Nat, b = (n : Int) := ⟨b.toNat, by omega⟩
  exact pnew_case m n fa fb w _ _ rfl rfl
end Go.Proofs.YtdglhonogopciaaDoor
