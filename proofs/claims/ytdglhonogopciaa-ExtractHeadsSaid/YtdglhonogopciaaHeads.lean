/- extract.Heads; the law's clash. -/
import Derived.Test.YtdglhonogopciaaExtr
namespace Go.Proofs.Ytdglhonogopciaa
open Go.RowKit

/-- two rows of two heads, or nothing -/
def HeadsPost (w : World) (X Y : List UInt8) (e : Ending) (w' : World) : Prop :=
  ∃ x' y' b, e = .returned (.tuple #[x', y', .bool b]) ∧ ((X ≠ Y ∧ sha X = sha Y) ∧ (∃ a1 c1 a2 c2, x' = .slice a1 77 c1 ∧ y' = .slice a2 77 c2 ∧ Bs w' a1 77 c1 X ∧ Bs w' a2 77 c2 Y) ∧ b = true ∨ ¬ (X ≠ Y ∧ sha X = sha Y) ∧ x' = .slice none 0 0 ∧ y' = .slice none 0 0 ∧ b = false) ∧ Below w.heap.size w w'
set_option maxRecDepth 100000 in
set_option maxHeartbeats 2000000 in
theorem heads_any (i f c i' f' c' : Nat) (n n' : Int) (pa ra pa' ra' : Option Addr) (pc rc pc' rc' : Nat) (P R P' R' : List UInt8) (w : World) (hi : i ≤ 65535) (hc : c ≤ 65535) (hf : f ≤ 1099511627776) (hi' : i' ≤ 65535) (hc' : c' ≤ 65535) (hf' : f' ≤ 1099511627776)
    (hP : Bs w pa 32 pc P) (hR : Bs w ra 32 rc R) (hP' : Bs w pa' 32 pc' P') (hR' : Bs w ra' 32 rc' R') :
    Calls Try.prog 7 #[.agg (hdCells i f c n pa pc ra rc), .agg (hdCells i' f' c' n' pa' pc' ra' rc')] w (HeadsPost w (hdRow i f c P R) (hdRow i' f' c' P' R')) := by
  have HX := Lib.hid (hdRow_length i f c P R hP.1 hR.1)
  have HY := Lib.hid (hdRow_length i' f' c' P' R' hP'.1 hR'.1)
  have HF1 := Lib.hid (fun w => fine_ok i f c n pa ra pc rc w hi hc hf)
  have HF2 := Lib.hid (fun w => fine_ok i' f' c' n' pa' ra' pc' rc' w hi' hc' hf')
  unfold hdCells at *
  obtain ⟨w0, hw0⟩ : ∃ w0, w0 = (w.alloc (.cells #[.int .i64 (i : Int), .int .u64 (f : Int), .int .i64 (c : Int), .int .i64 n, .slice pa 32 pc, .slice ra 32 rc] 25)).alloc (.cells #[.int .i64 (i' : Int), .int .u64 (f' : Int), .int .i64 (c' : Int), .int .i64 n', .slice pa' 32 pc', .slice ra' 32 rc'] 25) := ⟨_, rfl⟩
  have hE : Ext w.heap.size w w0 := by rw [hw0]; exact ((Ext.refl w).alloc _).alloc _
  have hl0 : w.heap.size < w0.heap.size := by rw [hw0]; simp; omega
  have hl1 : w.heap.size + 1 < w0.heap.size := by rw [hw0]; simp
  have hP := hP.below hE.1
  have hR := hR.below hE.1
  have hP' := hP'.below hE.1
  have hR' := hR'.below hE.1
  have hk : ∀ j, w0.cell? ⟨w.heap.size, j, none⟩ = (#[.int .i64 (i : Int), .int .u64 (f : Int), .int .i64 (c : Int), .int .i64 n, .slice pa 32 pc, .slice ra 32 rc] : Array Value)[j]? := fun j => by
    rw [hw0]; exact cell_new_below ((Below.refl _ _).alloc (Nat.le_refl _) _) j
  have hk' : ∀ j, w0.cell? ⟨w.heap.size + 1, j, none⟩ = (#[.int .i64 (i' : Int), .int .u64 (f' : Int), .int .i64 (c' : Int), .int .i64 n', .slice pa' 32 pc', .slice ra' 32 rc'] : Array Value)[j]? := fun j => by
    have := cell_new (w.alloc (.cells #[.int .i64 (i : Int), .int .u64 (f : Int), .int .i64 (c : Int), .int .i64 n, .slice pa 32 pc, .slice ra 32 rc] 25)) #[.int .i64 (i' : Int), .int .u64 (f' : Int), .int .i64 (c' : Int), .int .i64 n', .slice pa' 32 pc', .slice ra' 32 rc'] 25 j
    rw [World.size_alloc] at this
    rw [hw0]; exact this
  obtain ⟨H, hH⟩ : ∃ H, H = w.heap.size := ⟨_, rfl⟩
  rw [← hH] at hE hl0 hl1 hk hk'
  have x0 : w0.cell? ⟨H, 0, none⟩ = some (.int .i64 (i : Int)) := hk 0
  have x1 : w0.cell? ⟨H, 1, none⟩ = some (.int .u64 (f : Int)) := hk 1
  have x2 : w0.cell? ⟨H, 2, none⟩ = some (.int .i64 (c : Int)) := hk 2
  have x3 : w0.cell? ⟨H, 3, none⟩ = some (.int .i64 n) := hk 3
  have x4 : w0.cell? ⟨H, 4, none⟩ = some (.slice pa 32 pc) := hk 4
  have x5 : w0.cell? ⟨H, 5, none⟩ = some (.slice ra 32 rc) := hk 5
  have y0 : w0.cell? ⟨H + 1, 0, none⟩ = some (.int .i64 (i' : Int)) := hk' 0
  have y1 : w0.cell? ⟨H + 1, 1, none⟩ = some (.int .u64 (f' : Int)) := hk' 1
  have y2 : w0.cell? ⟨H + 1, 2, none⟩ = some (.int .i64 (c' : Int)) := hk' 2
  have y3 : w0.cell? ⟨H + 1, 3, none⟩ = some (.int .i64 n') := hk' 3
  have y4 : w0.cell? ⟨H + 1, 4, none⟩ = some (.slice pa' 32 pc') := hk' 4
  have y5 : w0.cell? ⟨H + 1, 5, none⟩ = some (.slice ra' 32 rc') := hk' 5
  have HW0 := Lib.hid hw0
  have HH := Lib.hid hH
  clear hk hk' hw0
  go_enter Try.func7, Try.ntmps7
  go_upto_region 1 with fail
  rw [← HW0.out, ← hH]
  clear hH HW0
  go_wp2_with fail
  refine (HF1.out _).mono ?_
  rintro e wk ⟨rfl, hb⟩
  have x0 := (hb.cell (p := ⟨H, 0, none⟩) hl0).trans x0
  have x1 := (hb.cell (p := ⟨H, 1, none⟩) hl0).trans x1
  have x2 := (hb.cell (p := ⟨H, 2, none⟩) hl0).trans x2
  have x3 := (hb.cell (p := ⟨H, 3, none⟩) hl0).trans x3
  have x4 := (hb.cell (p := ⟨H, 4, none⟩) hl0).trans x4
  have x5 := (hb.cell (p := ⟨H, 5, none⟩) hl0).trans x5
  have hl0 := Nat.lt_of_lt_of_le hl0 hb.size
  have y0 := (hb.cell (p := ⟨H + 1, 0, none⟩) hl1).trans y0
  have y1 := (hb.cell (p := ⟨H + 1, 1, none⟩) hl1).trans y1
  have y2 := (hb.cell (p := ⟨H + 1, 2, none⟩) hl1).trans y2
  have y3 := (hb.cell (p := ⟨H + 1, 3, none⟩) hl1).trans y3
  have y4 := (hb.cell (p := ⟨H + 1, 4, none⟩) hl1).trans y4
  have y5 := (hb.cell (p := ⟨H + 1, 5, none⟩) hl1).trans y5
  have hl1 := Nat.lt_of_lt_of_le hl1 hb.size
  have hP := hP.below hb
  have hR := hR.below hb
  have hP' := hP'.below hb
  have hR' := hR'.below hb
  have hE := hE.step hb
  clear hb HF1
  go_wp2_with fail
  refine (HF2.out _).mono ?_
  rintro e wk ⟨rfl, hb⟩
  have x0 := (hb.cell (p := ⟨H, 0, none⟩) hl0).trans x0
  have x1 := (hb.cell (p := ⟨H, 1, none⟩) hl0).trans x1
  have x2 := (hb.cell (p := ⟨H, 2, none⟩) hl0).trans x2
  have x3 := (hb.cell (p := ⟨H, 3, none⟩) hl0).trans x3
  have x4 := (hb.cell (p := ⟨H, 4, none⟩) hl0).trans x4
  have x5 := (hb.cell (p := ⟨H, 5, none⟩) hl0).trans x5
  have hl0 := Nat.lt_of_lt_of_le hl0 hb.size
  have y0 := (hb.cell (p := ⟨H + 1, 0, none⟩) hl1).trans y0
  have y1 := (hb.cell (p := ⟨H + 1, 1, none⟩) hl1).trans y1
  have y2 := (hb.cell (p := ⟨H + 1, 2, none⟩) hl1).trans y2
  have y3 := (hb.cell (p := ⟨H + 1, 3, none⟩) hl1).trans y3
  have y4 := (hb.cell (p := ⟨H + 1, 4, none⟩) hl1).trans y4
  have y5 := (hb.cell (p := ⟨H + 1, 5, none⟩) hl1).trans y5
  have hl1 := Nat.lt_of_lt_of_le hl1 hb.size
  have hP := hP.below hb
  have hR := hR.below hb
  have hP' := hP'.below hb
  have hR' := hR'.below hb
  have hE := hE.step hb
  clear hb HF2
  go_upto_region 3 with fail
  obtain ⟨wd, hwd⟩ : ∃ wd, wd = wk.drew := ⟨_, rfl⟩
  have hb : Below wk.heap.size wk wd := by rw [hwd]; exact (Below.refl _ _).drew
  have x0 := (hb.cell (p := ⟨H, 0, none⟩) hl0).trans x0
  have x1 := (hb.cell (p := ⟨H, 1, none⟩) hl0).trans x1
  have x2 := (hb.cell (p := ⟨H, 2, none⟩) hl0).trans x2
  have x3 := (hb.cell (p := ⟨H, 3, none⟩) hl0).trans x3
  have x4 := (hb.cell (p := ⟨H, 4, none⟩) hl0).trans x4
  have x5 := (hb.cell (p := ⟨H, 5, none⟩) hl0).trans x5
  have hl0 := Nat.lt_of_lt_of_le hl0 hb.size
  have y0 := (hb.cell (p := ⟨H + 1, 0, none⟩) hl1).trans y0
  have y1 := (hb.cell (p := ⟨H + 1, 1, none⟩) hl1).trans y1
  have y2 := (hb.cell (p := ⟨H + 1, 2, none⟩) hl1).trans y2
  have y3 := (hb.cell (p := ⟨H + 1, 3, none⟩) hl1).trans y3
  have y4 := (hb.cell (p := ⟨H + 1, 4, none⟩) hl1).trans y4
  have y5 := (hb.cell (p := ⟨H + 1, 5, none⟩) hl1).trans y5
  have hl1 := Nat.lt_of_lt_of_le hl1 hb.size
  have hP := hP.below hb
  have hR := hR.below hb
  have hP' := hP'.below hb
  have hR' := hR'.below hb
  have hE := hE.step hb
  clear hb
  refine held_start (by kernel_rfl) (fun hHeld => ?_)
  rw [← hwd] at hHeld ⊢
  clear hwd
  refine held_take (i := 0) (v := ?_) 15 rfl (by kernel_rfl) (by kernel_rfl) (by kernel_rfl) (fun _ _ _ h => h) rfl (by assumption) (Or.inl ⟨by rfl, ?_⟩) ?_
  rotate_left
  · intro w hSw; obtain ⟨hc, hf⟩ := bcell hSw; go_simp; (try with_reducible rfl)
  simp only [List.set_cons_zero, List.set_cons_succ]
  refine held_take (i := 2) (v := ?_) 17 rfl (by kernel_rfl) (by kernel_rfl) (by kernel_rfl) (fun _ _ _ h => h) rfl (by assumption) (Or.inl ⟨by rfl, ?_⟩) ?_
  rotate_left
  · intro w hSw; obtain ⟨hc, hf⟩ := bcell hSw; go_simp; (try with_reducible rfl)
  simp only [List.set_cons_zero, List.set_cons_succ]
  refine wpAnyH_ready (rs := [1]) (by kernel_rfl) (by simp) ?_
  refine AllReadyH.cons rfl (fun K hK => ?_) AllReadyH.nil
  go_simp
  refine (segrow_any i f c n pa ra pc rc P R _ hi hc hP hR).mono ?_
  rintro e w1 ⟨v1, rfl, ho1, hb⟩
  have x0 := (hb.cell (p := ⟨H, 0, none⟩) hl0).trans x0
  have x1 := (hb.cell (p := ⟨H, 1, none⟩) hl0).trans x1
  have x2 := (hb.cell (p := ⟨H, 2, none⟩) hl0).trans x2
  have x3 := (hb.cell (p := ⟨H, 3, none⟩) hl0).trans x3
  have x4 := (hb.cell (p := ⟨H, 4, none⟩) hl0).trans x4
  have x5 := (hb.cell (p := ⟨H, 5, none⟩) hl0).trans x5
  have hl0 := Nat.lt_of_lt_of_le hl0 hb.size
  have y0 := (hb.cell (p := ⟨H + 1, 0, none⟩) hl1).trans y0
  have y1 := (hb.cell (p := ⟨H + 1, 1, none⟩) hl1).trans y1
  have y2 := (hb.cell (p := ⟨H + 1, 2, none⟩) hl1).trans y2
  have y3 := (hb.cell (p := ⟨H + 1, 3, none⟩) hl1).trans y3
  have y4 := (hb.cell (p := ⟨H + 1, 4, none⟩) hl1).trans y4
  have y5 := (hb.cell (p := ⟨H + 1, 5, none⟩) hl1).trans y5
  have hl1 := Nat.lt_of_lt_of_le hl1 hb.size
  have hP := hP.below hb
  have hR := hR.below hb
  have hP' := hP'.below hb
  have hR' := hR'.below hb
  have hE := hE.step hb
  obtain ⟨s1, k1, rfl, hS1⟩ := ho1.bsn (n := 77) HX.out
  clear ho1
  go_wp2_with fail
  refine hK.out _ _ hb (fun _ => held_next hb (fun hHeld2 => ?_))
  clear hK hHeld hb
  have hHeld := hHeld2
  clear hHeld2 K
  refine wpAnyH_ready (rs := [3]) (by kernel_rfl) (by simp) ?_
  refine AllReadyH.cons rfl (fun K hK => ?_) AllReadyH.nil
  go_simp
  refine (segrow_any i' f' c' n' pa' ra' pc' rc' P' R' _ hi' hc' hP' hR').mono ?_
  rintro e w2 ⟨v2, rfl, ho2, hb⟩
  have x0 := (hb.cell (p := ⟨H, 0, none⟩) hl0).trans x0
  have x1 := (hb.cell (p := ⟨H, 1, none⟩) hl0).trans x1
  have x2 := (hb.cell (p := ⟨H, 2, none⟩) hl0).trans x2
  have x3 := (hb.cell (p := ⟨H, 3, none⟩) hl0).trans x3
  have x4 := (hb.cell (p := ⟨H, 4, none⟩) hl0).trans x4
  have x5 := (hb.cell (p := ⟨H, 5, none⟩) hl0).trans x5
  have hl0 := Nat.lt_of_lt_of_le hl0 hb.size
  have y0 := (hb.cell (p := ⟨H + 1, 0, none⟩) hl1).trans y0
  have y1 := (hb.cell (p := ⟨H + 1, 1, none⟩) hl1).trans y1
  have y2 := (hb.cell (p := ⟨H + 1, 2, none⟩) hl1).trans y2
  have y3 := (hb.cell (p := ⟨H + 1, 3, none⟩) hl1).trans y3
  have y4 := (hb.cell (p := ⟨H + 1, 4, none⟩) hl1).trans y4
  have y5 := (hb.cell (p := ⟨H + 1, 5, none⟩) hl1).trans y5
  have hl1 := Nat.lt_of_lt_of_le hl1 hb.size
  have hP := hP.below hb
  have hR := hR.below hb
  have hP' := hP'.below hb
  have hR' := hR'.below hb
  have hE := hE.step hb
  obtain ⟨s2, k2, rfl, hS2⟩ := ho2.bsn (n := 77) HY.out
  have hS1 := hS1.below hb
  clear ho2
  go_wp2_with fail
  refine hK.out _ _ hb (fun _ => held_next hb (fun hHeld2 => ?_))
  clear hK hHeld hb
  have hHeld := hHeld2
  clear hHeld2 K
  refine wpAnyH_ready (rs := [4]) (by kernel_rfl) (by simp) ?_
  refine AllReadyH.cons rfl (fun K hK => ?_) AllReadyH.nil
  go_simp
  refine (xclash_any s1 s2 77 77 k1 k2 _ _ _ hS1 hS2 (by omega) (by omega)).mono ?_
  rintro e w4 ⟨zx, zy, zb, rfl, hcl, hb⟩
  have x0 := (hb.cell (p := ⟨H, 0, none⟩) hl0).trans x0
  have x1 := (hb.cell (p := ⟨H, 1, none⟩) hl0).trans x1
  have x2 := (hb.cell (p := ⟨H, 2, none⟩) hl0).trans x2
  have x3 := (hb.cell (p := ⟨H, 3, none⟩) hl0).trans x3
  have x4 := (hb.cell (p := ⟨H, 4, none⟩) hl0).trans x4
  have x5 := (hb.cell (p := ⟨H, 5, none⟩) hl0).trans x5
  have hl0 := Nat.lt_of_lt_of_le hl0 hb.size
  have y0 := (hb.cell (p := ⟨H + 1, 0, none⟩) hl1).trans y0
  have y1 := (hb.cell (p := ⟨H + 1, 1, none⟩) hl1).trans y1
  have y2 := (hb.cell (p := ⟨H + 1, 2, none⟩) hl1).trans y2
  have y3 := (hb.cell (p := ⟨H + 1, 3, none⟩) hl1).trans y3
  have y4 := (hb.cell (p := ⟨H + 1, 4, none⟩) hl1).trans y4
  have y5 := (hb.cell (p := ⟨H + 1, 5, none⟩) hl1).trans y5
  have hl1 := Nat.lt_of_lt_of_le hl1 hb.size
  have hP := hP.below hb
  have hR := hR.below hb
  have hP' := hP'.below hb
  have hR' := hR'.below hb
  have hE := hE.step hb
  have HCL := Lib.hid hcl
  have hS1 := hS1.below hb
  have hS2 := hS2.below hb
  clear hcl
  go_wp2_with fail
  refine hK.out _ _ hb (fun _ => held_next hb (fun hHeld2 => ?_))
  clear hK hHeld hb
  have hHeld := hHeld2
  clear hHeld2 K
  refine held_take (i := 5) (v := ?_) 20 rfl (by kernel_rfl) (by kernel_rfl) (by kernel_rfl) (fun _ _ _ h => h) rfl (by assumption) (Or.inl ⟨by rfl, ?_⟩) ?_
  rotate_left
  · intro w hSw; go_simp; (try with_reducible rfl)
  simp only [List.set_cons_zero, List.set_cons_succ]
  refine held_take (i := 6) (v := ?_) 21 rfl (by kernel_rfl) (by kernel_rfl) (by kernel_rfl) (fun _ _ _ h => h) rfl (by assumption) (Or.inl ⟨by rfl, ?_⟩) ?_
  rotate_left
  · intro w hSw; go_simp; (try with_reducible rfl)
  simp only [List.set_cons_zero, List.set_cons_succ]
  refine held_take (i := 7) (v := ?_) 22 rfl (by kernel_rfl) (by kernel_rfl) (by kernel_rfl) (fun _ _ _ h => h) rfl (by assumption) (Or.inl ⟨by rfl, ?_⟩) ?_
  rotate_left
  · intro w hSw; go_simp; (try with_reducible rfl)
  simp only [List.set_cons_zero, List.set_cons_succ]
  refine held_take (i := 8) (v := ?_) 4 rfl (by kernel_rfl) (by kernel_rfl) (by kernel_rfl) (fun _ _ _ h => h) rfl (by assumption) (Or.inl ⟨by rfl, ?_⟩) ?_
  rotate_left
  · intro w hSw; go_simp; (try with_reducible rfl)
  simp only [List.set_cons_zero, List.set_cons_succ]
  refine held_take (i := 9) (v := ?_) 5 rfl (by kernel_rfl) (by kernel_rfl) (by kernel_rfl) (fun _ _ _ h => h) rfl (by assumption) (Or.inl ⟨by rfl, ?_⟩) ?_
  rotate_left
  · intro w hSw; go_simp; (try with_reducible rfl)
  simp only [List.set_cons_zero, List.set_cons_succ]
  refine held_take (i := 10) (v := ?_) 6 rfl (by kernel_rfl) (by kernel_rfl) (by kernel_rfl) (fun _ _ _ h => h) rfl (by assumption) (Or.inl ⟨by rfl, ?_⟩) ?_
  rotate_left
  · intro w hSw; go_simp; (try with_reducible rfl)
  simp only [List.set_cons_zero, List.set_cons_succ]
  refine wpAnyH_done (by kernel_rfl) ?_ _
  go_wp2_with fail
  go_ret3
  have hE9 := hE.1
  rw [HH.out] at hE9
  refine ⟨_, _, _, rfl, ?_, hE9⟩
  rcases HCL.out with ⟨h1, rfl, rfl, rfl⟩ | ⟨h1, rfl, rfl, rfl⟩
  · exact .inl ⟨h1, ⟨_, _, _, _, rfl, rfl, hS1, hS2⟩, rfl⟩
  · exact .inr ⟨h1, rfl, rfl, rfl⟩

set_option maxRecDepth 100000 in
set_option maxHeartbeats 1000000 in
theorem lawclash_any (a1 a2 : Option Addr) (l1 l2 c1 c2 : Nat) (xs ys : List UInt8) (w : World) (h1 : Bs w a1 l1 c1 xs) (h2 : Bs w a2 l2 c2 ys) (hl1 : l1 ≤ 100000) (hl2 : l2 ≤ 100000) (hne : xs ≠ ys) :
    Calls Try.prog 8 #[.slice a1 l1 c1, .slice a2 l2 c2] w fun e w' => e = .returned (.bool (decide (sha xs = sha ys))) ∧ Below w.heap.size w w' := by
  have hd : ((strOf xs).toList == (strOf ys).toList) = false := by rw [strOf_toList, strOf_toList]; simpa using hne
  have hd2 : ((strOf (sha xs)).toList == (strOf (sha ys)).toList) = decide (sha xs = sha ys) := by rw [strOf_toList, strOf_toList, Bool.eq_iff_iff]; simp
  obtain ⟨wk, hwk⟩ : ∃ wk, wk = w := ⟨_, rfl⟩
  have hE := Ext.refl w
  have HWK := Lib.hid hwk
  go_enter Try.func8, Try.ntmps8
  go_upto_region 1 with fail
  rw [← hwk] at h1 h2 hE ⊢
  clear hwk
  obtain ⟨wd, hwd⟩ : ∃ wd, wd = wk.drew := ⟨_, rfl⟩
  have hb : Below wk.heap.size wk wd := by rw [hwd]; exact (Below.refl _ _).drew
  have h1 := h1.below hb
  have h2 := h2.below hb
  have hE := hE.step hb
  clear hb
  refine held_start (by kernel_rfl) (fun hHeld => ?_)
  rw [← hwd] at hHeld ⊢
  clear hwd
  refine held_take (i := 0) (v := ?_) 5 rfl (by kernel_rfl) (by kernel_rfl) (by kernel_rfl) (fun _ _ _ h => h) rfl (by assumption) (Or.inl ⟨by rfl, ?_⟩) ?_
  rotate_left
  · intro w hSw; go_simp; (try with_reducible rfl)
  simp only [List.set_cons_zero, List.set_cons_succ]
  refine held_take (i := 1) (v := ?_) 6 rfl (by kernel_rfl) (by kernel_rfl) (by kernel_rfl) (fun _ _ _ h => h) rfl (by assumption) (Or.inl ⟨by rfl, ?_⟩) ?_
  rotate_left
  · intro w hSw; have hs := run_string (h1.below hSw); go_simp; (try with_reducible rfl)
  simp only [List.set_cons_zero, List.set_cons_succ]
  refine held_take (i := 2) (v := ?_) 7 rfl (by kernel_rfl) (by kernel_rfl) (by kernel_rfl) (fun _ _ _ h => h) rfl (by assumption) (Or.inl ⟨by rfl, ?_⟩) ?_
  rotate_left
  · intro w hSw; go_simp; (try with_reducible rfl)
  simp only [List.set_cons_zero, List.set_cons_succ]
  refine held_take (i := 3) (v := ?_) 8 rfl (by kernel_rfl) (by kernel_rfl) (by kernel_rfl) (fun _ _ _ h => h) rfl (by assumption) (Or.inl ⟨by rfl, ?_⟩) ?_
  rotate_left
  · intro w hSw; have hs := run_string (h2.below hSw); go_simp; (try with_reducible rfl)
  simp only [List.set_cons_zero, List.set_cons_succ]
  refine held_take (i := 4) (v := ?_) 9 rfl (by kernel_rfl) (by kernel_rfl) (by kernel_rfl) (fun _ _ _ h => h) rfl (by assumption) (Or.inl ⟨by rfl, ?_⟩) ?_
  rotate_left
  · intro w hSw; go_simp; (try with_reducible rfl)
  simp only [List.set_cons_zero, List.set_cons_succ]
  refine held_take (i := 5) (v := ?_) 10 rfl (by kernel_rfl) (by kernel_rfl) (by kernel_rfl) (fun _ _ _ h => h) rfl (by assumption) (Or.inl ⟨by rfl, ?_⟩) ?_
  rotate_left
  · intro w hSw; go_simp; (try with_reducible rfl)
  simp only [List.set_cons_zero, List.set_cons_succ]
  refine held_take (i := 6) (v := ?_) 11 rfl (by kernel_rfl) (by kernel_rfl) (by kernel_rfl) (fun _ _ _ h => h) rfl (by assumption) (Or.inl ⟨by rfl, ?_⟩) ?_
  rotate_left
  · intro w hSw; go_simp; (try with_reducible rfl)
  simp only [List.set_cons_zero, List.set_cons_succ]
  refine held_take (i := 9) (v := ?_) 14 rfl (by kernel_rfl) (by kernel_rfl) (by kernel_rfl) (fun _ _ _ h => h) rfl (by assumption) (Or.inl ⟨by rfl, ?_⟩) ?_
  rotate_left
  · intro w hSw; go_simp; (try with_reducible rfl)
  simp only [List.set_cons_zero, List.set_cons_succ]
  refine wpAnyH_ready (rs := [7]) (by kernel_rfl) (by simp) ?_
  refine AllReadyH.cons rfl (fun K hK => ?_) AllReadyH.nil
  go_simp
  refine (rsum_any a1 l1 c1 xs _ h1 (by omega)).mono ?_
  rintro e w1 ⟨v1, rfl, ho1, hb⟩
  have h1 := h1.below hb
  have h2 := h2.below hb
  have hE := hE.step hb
  obtain ⟨s1, k1, rfl, hS1⟩ := ho1.bsn (n := 32) (sha_length _)
  clear ho1
  go_wp2_with fail
  refine hK.out _ _ hb (fun _ => held_next hb (fun hHeld2 => ?_))
  clear hK hHeld hb
  have hHeld := hHeld2
  clear hHeld2 K
  refine held_take (i := 8) (v := ?_) 13 rfl (by kernel_rfl) (by kernel_rfl) (by kernel_rfl) (fun _ _ _ h => h) rfl (by assumption) (Or.inl ⟨by rfl, ?_⟩) ?_
  rotate_left
  · intro w hSw; have hs := run_string (hS1.below hSw); go_simp; (try with_reducible rfl)
  simp only [List.set_cons_zero, List.set_cons_succ]
  refine wpAnyH_ready (rs := [10]) (by kernel_rfl) (by simp) ?_
  refine AllReadyH.cons rfl (fun K hK => ?_) AllReadyH.nil
  go_simp
  refine (rsum_any a2 l2 c2 ys _ h2 (by omega)).mono ?_
  rintro e w2 ⟨v2, rfl, ho2, hb⟩
  have h1 := h1.below hb
  have h2 := h2.below hb
  have hE := hE.step hb
  obtain ⟨s2, k2, rfl, hS2⟩ := ho2.bsn (n := 32) (sha_length _)
  have hS1 := hS1.below hb
  clear ho2
  go_wp2_with fail
  refine hK.out _ _ hb (fun _ => held_next hb (fun hHeld2 => ?_))
  clear hK hHeld hb
  have hHeld := hHeld2
  clear hHeld2 K
  refine held_take (i := 11) (v := ?_) 16 rfl (by kernel_rfl) (by kernel_rfl) (by kernel_rfl) (fun _ _ _ h => h) rfl (by assumption) (Or.inl ⟨by rfl, ?_⟩) ?_
  rotate_left
  · intro w hSw; have hs := run_string (hS2.below hSw); go_simp; (try with_reducible rfl)
  simp only [List.set_cons_zero, List.set_cons_succ]
  refine held_take (i := 12) (v := ?_) 17 rfl (by kernel_rfl) (by kernel_rfl) (by kernel_rfl) (fun _ _ _ h => h) rfl (by assumption) (Or.inl ⟨by rfl, ?_⟩) ?_
  rotate_left
  · intro w hSw; go_simp; (try with_reducible rfl)
  simp only [List.set_cons_zero, List.set_cons_succ]
  refine held_take (i := 13) (v := ?_) 18 rfl (by kernel_rfl) (by kernel_rfl) (by kernel_rfl) (fun _ _ _ h => h) rfl (by assumption) (Or.inl ⟨by rfl, ?_⟩) ?_
  rotate_left
  · intro w hSw; go_simp; (try with_reducible rfl)
  simp only [List.set_cons_zero, List.set_cons_succ]
  refine held_take (i := 14) (v := ?_) 4 rfl (by kernel_rfl) (by kernel_rfl) (by kernel_rfl) (fun _ _ _ h => h) rfl (by assumption) (Or.inl ⟨by rfl, ?_⟩) ?_
  rotate_left
  · intro w hSw; go_simp; (try with_reducible rfl)
  simp only [List.set_cons_zero, List.set_cons_succ]
  refine wpAnyH_done (by kernel_rfl) ?_ _
  go_wp2_with fail
  go_ret
  have hE9 := hE.1
  rw [HWK.out] at hE9
  exact ⟨rfl, hE9⟩
end Go.Proofs.Ytdglhonogopciaa
