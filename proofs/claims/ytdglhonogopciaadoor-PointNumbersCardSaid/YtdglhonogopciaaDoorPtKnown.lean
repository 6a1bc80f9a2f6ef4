/- known of the statements on point. -/
import Derived.Test.YtdglhonogopciaaDoorPtPlan
namespace Go.Proofs.YtdglhonogopciaaDoor
open Go.RowKit

def AtC (w : World) (b : Nat) (o : Obj) : Prop := w.heap[b]? = some o
theorem AtC.below {w w' : World} {b : Nat} {o : Obj} (h : AtC w b o) (hb : Below w.heap.size w w') : AtC w' b o := (hb.block b (lt_of_heap h)).trans h
theorem crc_zero58 : crcMore 0 (List.replicate 58 0) ≠ 0 := by decide +kernel
theorem zero_img : List.replicate 2048 (0 : UInt8) = ptImg 0 0 0 (List.replicate 32 0) 0 0 (List.replicate 32 0) (List.replicate 1954 0) := by
  have hb : ∀ k, be 0 k = List.replicate k 0 := by
    intro k
    induction k with
    | zero => rfl
    | succ k ih => rw [be, ih]; simp [List.replicate_succ]
  unfold ptImg ptHead
  simp only [hb, Nat.zero_div]
  decide +kernel
theorem pdec_zero (a : Option Addr) (cap : Nat) (w : World) (h : Bs w a 2048 cap (List.replicate 2048 0)) :
    Calls Tryd.prog 19 #[.agg #[.int .i64 64, .int .i64 16, .int .i64 3], .slice a 2048 cap] w fun e w' => (∃ ah lh ch al lt ct, e = .returned (.tuple #[.agg #[.int .u64 0, .int .u64 0, .int .i64 0, .slice ah lh ch, .slice al lt ct], .int .i64 14])) ∧ Below w.heap.size w w' := by
  rw [zero_img] at h
  refine (pdec_ok 64 16 3 a 2048 cap w 0 0 0 0 0 _ _ _ (by decide) h (by decide) ⟨by decide, by decide, by decide, by simp, by decide, by decide, by simp⟩).mono ?_
  rintro e w' ⟨hp, hb⟩
  have hw : ptWhy 16 3 0 0 0 (List.replicate 32 0) 0 0 (List.replicate 32 0) (List.replicate 1954 0) = 14 := by
    unfold ptWhy
    rw [if_pos]
    have e : ptHead 0 0 0 (List.replicate 32 0) 0 = List.replicate 58 0 := by decide +kernel
    rw [e]
    exact fun h => crc_zero58 h.symm
  rw [hw] at hp
  obtain ⟨ah, lh, ch, al, lt, ct, rfl, _, _⟩ := hp
  exact ⟨⟨ah, lh, ch, al, lt, ct, rfl⟩, hb⟩
set_option maxHeartbeats 1000000 in
set_option maxRecDepth 100000 in
theorem pt_known (w : World) : Calls Tryd.prog 9 #[] w fun e w' => e = .returned (.bool true) ∧ Below w.heap.size w w' := by
  have hE := Ext.refl w
  obtain ⟨H, hH⟩ : ∃ H, H = w.heap.size := ⟨_, rfl⟩
  rw [← hH] at hE ⊢
  clear hH
  have hPA := plan_any 0 w
  rw [show ptSz 0 = 64 from rfl, show seg 64 = 3 from rfl, show (64 : Int) / 4 = 16 from rfl] at hPA
  have HPA := Lib.hid hPA
  clear hPA
  go_enter Tryd.func9, Tryd.ntmps9
  go_wp2_with fail
  refine HPA.out.mono ?_
  rintro e w1 ⟨rfl, hb⟩
  replace hE := hE.step hb
  clear hb
  have hP : AtC ((w1.alloc (.cells #[.int .i64 64, .int .i64 16, .int .i64 3] 31)).alloc (.cells #[.int .i64 64, .int .i64 16, .int .i64 3] 32)) w1.heap.size (.cells #[.int .i64 64, .int .i64 16, .int .i64 3] 31 (0, 0)) := (Below.heap_alloc (w1.alloc (.cells #[.int .i64 64, .int .i64 16, .int .i64 3] 31)) _ w1.heap.size (by simp)).trans (heap_alloc_new w1 _)
  replace hE := (hE.alloc (.cells #[.int .i64 64, .int .i64 16, .int .i64 3] 31)).alloc (.cells #[.int .i64 64, .int .i64 16, .int .i64 3] 32)
  go_upto_region 2 with fail
  generalize ((w1.alloc (.cells #[.int .i64 64, .int .i64 16, .int .i64 3] 31)).alloc (.cells #[.int .i64 64, .int .i64 16, .int .i64 3] 32)) = w2 at *
  generalize w1.heap.size = P at *
  obtain ⟨wd, hwd⟩ : ∃ wd, wd = w2.drew := ⟨_, rfl⟩
  have hb : Below w2.heap.size w2 wd := by rw [hwd]; exact (Below.refl _ _).drew
  have hP := hP.below hb
  have hE := hE.step hb
  clear hb
  refine held_start (by kernel_rfl) (fun hHeld => ?_)
  rw [← hwd] at hHeld ⊢
  clear hwd
  refine held_take (i := 0) (v := ?_) 12 rfl (by kernel_rfl) (by kernel_rfl) (by kernel_rfl) (fun _ _ _ h => h) rfl (by assumption) (Or.inl ⟨by rfl, ?_⟩) ?_
  rotate_left
  · intro w hSw; have kk := hP.below hSw; have k0 := cells_at kk 0; have k1 := cells_at kk 1; have k2 := cells_at kk 2; simp only [List.getElem?_toArray, List.getElem?_cons_zero, List.getElem?_cons_succ] at k0 k1 k2; go_simp; (try with_reducible rfl)
  simp only [List.set_cons_zero, List.set_cons_succ]
  refine wpAnyH_ready (rs := [1, 6]) (by kernel_rfl) (by simp) ?_
  refine (AllReadyH.cons rfl (fun K hK => ?_) (AllReadyH.cons rfl (fun K hK => ?_) AllReadyH.nil))
  · have hrun : (Instr.makeSlice 23 (.int .i64 (2048 : Int)) (.int .i64 (2048 : Int))).run Tryd.prog wd = .ok (.slice (some ⟨wd.heap.size, 0, none⟩) 2048 2048) (wd.alloc (.cells (madeCells #[.int .u8 0] 2048) TB)) := run_make_bytes 2048 (by omega) wd
    have hBz := (Row.zero wd 2048 (by unfold maxLen; omega)).bs
    rw [List.length_replicate] at hBz
    have hb : HB wd (wd.alloc (.cells (madeCells #[.int .u8 0] 2048) TB)) := (HB.refl _).alloc _
    have hbt := HB.trans hHeld hb
    go_simp
    generalize wd.alloc (.cells (madeCells #[.int .u8 0] 2048) TB) = w1x at *
    clear hrun hb
    go_wp2_with fail
    refine hK.out _ _ hbt (fun _ => ?_)
    clear hK hHeld K
    have hHeld := hbt
    clear hbt
    refine wpAnyH_ready (rs := [2, 6]) (by kernel_rfl) (by simp) ?_
    refine (AllReadyH.cons rfl (fun K hK => ?_) (AllReadyH.cons rfl (fun K hK => ?_) AllReadyH.nil))
    · go_simp
      refine (pdec_zero _ _ _ hBz).mono ?_
      rintro e w2x ⟨⟨ah, lh, ch, al, lt, ct, rfl⟩, hb⟩
      have hbt := HB.trans hHeld hb
      have hBz := hBz.below hb
      go_wp2_with fail
      refine hK.out _ _ hbt (fun _ => ?_)
      clear hK hHeld K
      have hHeld := hbt
      clear hb hbt
      refine held_take (i := 3) (v := ?_) 11 rfl (by kernel_rfl) (by kernel_rfl) (by kernel_rfl) (fun _ _ _ h => h) rfl (by assumption) (Or.inl ⟨by rfl, ?_⟩) ?_
      rotate_left
      · intro w hSw; go_simp; (try with_reducible rfl)
      simp only [List.set_cons_zero, List.set_cons_succ]
      refine held_take (i := 4) (v := ?_) 15 rfl (by kernel_rfl) (by kernel_rfl) (by kernel_rfl) (fun _ _ _ h => h) rfl (by assumption) (Or.inl ⟨by rfl, ?_⟩) ?_
      rotate_left
      · intro w hSw; go_simp; (try with_reducible rfl)
      simp only [List.set_cons_zero, List.set_cons_succ]
      refine held_take (i := 5) (v := ?_) 16 rfl (by kernel_rfl) (by kernel_rfl) (by kernel_rfl) (fun _ _ _ h => h) rfl (by assumption) (Or.inl ⟨by rfl, ?_⟩) ?_
      rotate_left
      · intro w hSw; go_simp; (try with_reducible rfl)
      simp only [List.set_cons_zero, List.set_cons_succ]
      refine wpAnyH_ready (rs := [6]) (by kernel_rfl) (by simp) ?_
      refine (AllReadyH.cons rfl (fun K hK => ?_) AllReadyH.nil)
      have hX := (show AtC (w2x.alloc (.cells #[.int .u64 0, .int .u64 0, .int .i64 0, .slice none 0 0, .slice none 0 0] 25)) w2x.heap.size (.cells #[.int .u64 0, .int .u64 0, .int .i64 0, .slice none 0 0, .slice none 0 0] 25 (0, 0)) from heap_alloc_new w2x _)
      obtain ⟨X, hXe⟩ : ∃ X, X = w2x.heap.size := ⟨_, rfl⟩
      have hXl : wd.heap.size ≤ X := by rw [hXe]; exact Below.size hHeld
      have hb : HB w2x (w2x.alloc (.cells #[.int .u64 0, .int .u64 0, .int .i64 0, .slice none 0 0, .slice none 0 0] 25)) := (HB.refl _).alloc _
      have hbt := HB.trans hHeld hb
      have hBz := hBz.below hb
      go_simp
      generalize w2x.alloc (.cells #[.int .u64 0, .int .u64 0, .int .i64 0, .slice none 0 0, .slice none 0 0] 25) = w3x at *
      rw [← hXe] at hX ⊢
      clear hXe hb
      go_wp2_with fail
      refine hK.out _ _ hbt (fun _ => ?_)
      clear hK hHeld K
      have hHeld := hbt
      clear hbt
      refine wpAnyH_ready (rs := [7]) (by kernel_rfl) (by simp) ?_
      refine (AllReadyH.cons rfl (fun K hK => ?_) AllReadyH.nil)
      have x0 := cells_at hX 0
      have x1 := cells_at hX 1
      have x2 := cells_at hX 2
      have x3 := cells_at hX 3
      have x4 := cells_at hX 4
      have g0 := frozen_at hX 0
      have g1 := frozen_at hX 1
      have g2 := frozen_at hX 2
      have g3 := frozen_at hX 3
      have g4 := frozen_at hX 4
      simp only [List.getElem?_toArray, List.getElem?_cons_zero, List.getElem?_cons_succ] at x0 x1 x2 x3 x4
      have hbt := below5 hHeld hXl (.int .u64 0) (.int .u64 0) (.int .i64 0) (.slice ah lh ch) (.slice al lt ct)
      go_simp
      go_wp2_with fail
      refine hK.out _ _ hbt (fun _ => ?_)
      clear hK hHeld K
      have hHeld := hbt
      clear hbt
      refine held_take (i := 8) (v := ?_) 4 rfl (by kernel_rfl) (by kernel_rfl) (by kernel_rfl) (fun _ _ _ h => h) rfl (by assumption) (Or.inl ⟨by rfl, ?_⟩) ?_
      rotate_left
      · intro w hSw; go_simp; (try with_reducible rfl)
      simp only [List.set_cons_zero, List.set_cons_succ]
      refine wpAnyH_done (by kernel_rfl) ?_ _
      have hE2 := hE.step hHeld
      have hP2 := hP.below hHeld
      go_wp2_with fail
      refine (newer_any ⟨9, 0, 0, [], []⟩ ⟨0, 0, 0, [], []⟩ none none none none 0 0 0 0 0 0 0 0 false true _).mono ?_
      rintro e w90 ⟨rfl, hb⟩
      replace hE2 := hE2.step hb
      replace hP2 := hP2.below hb
      have k0 := cells_at hP2 0
      have k1 := cells_at hP2 1
      have k2 := cells_at hP2 2
      simp only [List.getElem?_toArray, List.getElem?_cons_zero, List.getElem?_cons_succ] at k0 k1 k2
      clear hb
      go_wp2_with fail
      refine (room_ok 64 16 3 w90 (by decide)).mono ?_
      rintro e w91 ⟨rfl, hb⟩
      replace hE2 := hE2.step hb
      go_wp2_with fail
      go_ret
      exact ⟨rfl, hE2.1⟩
    · have hX := (show AtC (w1x.alloc (.cells #[.int .u64 0, .int .u64 0, .int .i64 0, .slice none 0 0, .slice none 0 0] 25)) w1x.heap.size (.cells #[.int .u64 0, .int .u64 0, .int .i64 0, .slice none 0 0, .slice none 0 0] 25 (0, 0)) from heap_alloc_new w1x _)
      obtain ⟨X, hXe⟩ : ∃ X, X = w1x.heap.size := ⟨_, rfl⟩
      have hXl : wd.heap.size ≤ X := by rw [hXe]; exact Below.size hHeld
      have hb : HB w1x (w1x.alloc (.cells #[.int .u64 0, .int .u64 0, .int .i64 0, .slice none 0 0, .slice none 0 0] 25)) := (HB.refl _).alloc _
      have hbt := HB.trans hHeld hb
      have hBz := hBz.below hb
      go_simp
      generalize w1x.alloc (.cells #[.int .u64 0, .int .u64 0, .int .i64 0, .slice none 0 0, .slice none 0 0] 25) = w5x at *
      rw [← hXe] at hX ⊢
      clear hXe hb
      go_wp2_with fail
      refine hK.out _ _ hbt (fun _ => ?_)
      clear hK hHeld K
      have hHeld := hbt
      clear hbt
      refine wpAnyH_ready (rs := [2]) (by kernel_rfl) (by simp) ?_
      refine (AllReadyH.cons rfl (fun K hK => ?_) AllReadyH.nil)
      go_simp
      refine (pdec_zero _ _ _ hBz).mono ?_
      rintro e w6x ⟨⟨ah, lh, ch, al, lt, ct, rfl⟩, hb⟩
      have hbt := HB.trans hHeld hb
      have hBz := hBz.below hb
      have hX := hX.below hb
      go_wp2_with fail
      refine hK.out _ _ hbt (fun _ => ?_)
      clear hK hHeld K
      have hHeld := hbt
      clear hb hbt
      refine held_take (i := 3) (v := ?_) 11 rfl (by kernel_rfl) (by kernel_rfl) (by kernel_rfl) (fun _ _ _ h => h) rfl (by assumption) (Or.inl ⟨by rfl, ?_⟩) ?_
      rotate_left
      · intro w hSw; go_simp; (try with_reducible rfl)
      simp only [List.set_cons_zero, List.set_cons_succ]
      refine held_take (i := 4) (v := ?_) 15 rfl (by kernel_rfl) (by kernel_rfl) (by kernel_rfl) (fun _ _ _ h => h) rfl (by assumption) (Or.inl ⟨by rfl, ?_⟩) ?_
      rotate_left
      · intro w hSw; go_simp; (try with_reducible rfl)
      simp only [List.set_cons_zero, List.set_cons_succ]
      refine held_take (i := 5) (v := ?_) 16 rfl (by kernel_rfl) (by kernel_rfl) (by kernel_rfl) (fun _ _ _ h => h) rfl (by assumption) (Or.inl ⟨by rfl, ?_⟩) ?_
      rotate_left
      · intro w hSw; go_simp; (try with_reducible rfl)
      simp only [List.set_cons_zero, List.set_cons_succ]
      refine wpAnyH_ready (rs := [7]) (by kernel_rfl) (by simp) ?_
      refine (AllReadyH.cons rfl (fun K hK => ?_) AllReadyH.nil)
      have x0 := cells_at hX 0
      have x1 := cells_at hX 1
      have x2 := cells_at hX 2
      have x3 := cells_at hX 3
      have x4 := cells_at hX 4
      have g0 := frozen_at hX 0
      have g1 := frozen_at hX 1
      have g2 := frozen_at hX 2
      have g3 := frozen_at hX 3
      have g4 := frozen_at hX 4
      simp only [List.getElem?_toArray, List.getElem?_cons_zero, List.getElem?_cons_succ] at x0 x1 x2 x3 x4
      have hbt := below5 hHeld hXl (.int .u64 0) (.int .u64 0) (.int .i64 0) (.slice ah lh ch) (.slice al lt ct)
      go_simp
      go_wp2_with fail
      refine hK.out _ _ hbt (fun _ => ?_)
      clear hK hHeld K
      have hHeld := hbt
      clear hbt
      refine held_take (i := 8) (v := ?_) 4 rfl (by kernel_rfl) (by kernel_rfl) (by kernel_rfl) (fun _ _ _ h => h) rfl (by assumption) (Or.inl ⟨by rfl, ?_⟩) ?_
      rotate_left
      · intro w hSw; go_simp; (try with_reducible rfl)
      simp only [List.set_cons_zero, List.set_cons_succ]
      refine wpAnyH_done (by kernel_rfl) ?_ _
      have hE2 := hE.step hHeld
      have hP2 := hP.below hHeld
      go_wp2_with fail
      refine (newer_any ⟨9, 0, 0, [], []⟩ ⟨0, 0, 0, [], []⟩ none none none none 0 0 0 0 0 0 0 0 false true _).mono ?_
      rintro e w90 ⟨rfl, hb⟩
      replace hE2 := hE2.step hb
      replace hP2 := hP2.below hb
      have k0 := cells_at hP2 0
      have k1 := cells_at hP2 1
      have k2 := cells_at hP2 2
      simp only [List.getElem?_toArray, List.getElem?_cons_zero, List.getElem?_cons_succ] at k0 k1 k2
      clear hb
      go_wp2_with fail
      refine (room_ok 64 16 3 w90 (by decide)).mono ?_
      rintro e w91 ⟨rfl, hb⟩
      replace hE2 := hE2.step hb
      go_wp2_with fail
      go_ret
      exact ⟨rfl, hE2.1⟩
  · have hX := (show AtC (wd.alloc (.cells #[.int .u64 0, .int .u64 0, .int .i64 0, .slice none 0 0, .slice none 0 0] 25)) wd.heap.size (.cells #[.int .u64 0, .int .u64 0, .int .i64 0, .slice none 0 0, .slice none 0 0] 25 (0, 0)) from heap_alloc_new wd _)
    obtain ⟨X, hXe⟩ : ∃ X, X = wd.heap.size := ⟨_, rfl⟩
    have hXl : wd.heap.size ≤ X := by rw [hXe]; exact Below.size hHeld
    have hb : HB wd (wd.alloc (.cells #[.int .u64 0, .int .u64 0, .int .i64 0, .slice none 0 0, .slice none 0 0] 25)) := (HB.refl _).alloc _
    have hbt := HB.trans hHeld hb
    go_simp
    generalize wd.alloc (.cells #[.int .u64 0, .int .u64 0, .int .i64 0, .slice none 0 0, .slice none 0 0] 25) = w8x at *
    rw [← hXe] at hX ⊢
    clear hXe hb
    go_wp2_with fail
    refine hK.out _ _ hbt (fun _ => ?_)
    clear hK hHeld K
    have hHeld := hbt
    clear hbt
    refine wpAnyH_ready (rs := [1]) (by kernel_rfl) (by simp) ?_
    refine (AllReadyH.cons rfl (fun K hK => ?_) AllReadyH.nil)
    have hrun : (Instr.makeSlice 23 (.int .i64 (2048 : Int)) (.int .i64 (2048 : Int))).run Tryd.prog w8x = .ok (.slice (some ⟨w8x.heap.size, 0, none⟩) 2048 2048) (w8x.alloc (.cells (madeCells #[.int .u8 0] 2048) TB)) := run_make_bytes 2048 (by omega) w8x
    have hBz := (Row.zero w8x 2048 (by unfold maxLen; omega)).bs
    rw [List.length_replicate] at hBz
    have hb : HB w8x (w8x.alloc (.cells (madeCells #[.int .u8 0] 2048) TB)) := (HB.refl _).alloc _
    have hbt := HB.trans hHeld hb
    have hX := hX.below hb
    go_simp
    generalize w8x.alloc (.cells (madeCells #[.int .u8 0] 2048) TB) = w9x at *
    clear hrun hb
    go_wp2_with fail
    refine hK.out _ _ hbt (fun _ => ?_)
    clear hK hHeld K
    have hHeld := hbt
    clear hbt
    refine wpAnyH_ready (rs := [2]) (by kernel_rfl) (by simp) ?_
    refine (AllReadyH.cons rfl (fun K hK => ?_) AllReadyH.nil)
    go_simp
    refine (pdec_zero _ _ _ hBz).mono ?_
    rintro e w10x ⟨⟨ah, lh, ch, al, lt, ct, rfl⟩, hb⟩
    have hbt := HB.trans hHeld hb
    have hX := hX.below hb
    have hBz := hBz.below hb
    go_wp2_with fail
    refine hK.out _ _ hbt (fun _ => ?_)
    clear hK hHeld K
    have hHeld := hbt
    clear hb hbt
    refine held_take (i := 3) (v := ?_) 11 rfl (by kernel_rfl) (by kernel_rfl) (by kernel_rfl) (fun _ _ _ h => h) rfl (by assumption) (Or.inl ⟨by rfl, ?_⟩) ?_
    rotate_left
    · intro w hSw; go_simp; (try with_reducible rfl)
    simp only [List.set_cons_zero, List.set_cons_succ]
    refine held_take (i := 4) (v := ?_) 15 rfl (by kernel_rfl) (by kernel_rfl) (by kernel_rfl) (fun _ _ _ h => h) rfl (by assumption) (Or.inl ⟨by rfl, ?_⟩) ?_
    rotate_left
    · intro w hSw; go_simp; (try with_reducible rfl)
    simp only [List.set_cons_zero, List.set_cons_succ]
    refine held_take (i := 5) (v := ?_) 16 rfl (by kernel_rfl) (by kernel_rfl) (by kernel_rfl) (fun _ _ _ h => h) rfl (by assumption) (Or.inl ⟨by rfl, ?_⟩) ?_
    rotate_left
    · intro w hSw; go_simp; (try with_reducible rfl)
    simp only [List.set_cons_zero, List.set_cons_succ]
    refine wpAnyH_ready (rs := [7]) (by kernel_rfl) (by simp) ?_
    refine (AllReadyH.cons rfl (fun K hK => ?_) AllReadyH.nil)
    have x0 := cells_at hX 0
    have x1 := cells_at hX 1
    have x2 := cells_at hX 2
    have x3 := cells_at hX 3
    have x4 := cells_at hX 4
    have g0 := frozen_at hX 0
    have g1 := frozen_at hX 1
    have g2 := frozen_at hX 2
    have g3 := frozen_at hX 3
    have g4 := frozen_at hX 4
    simp only [List.getElem?_toArray, List.getElem?_cons_zero, List.getElem?_cons_succ] at x0 x1 x2 x3 x4
    have hbt := below5 hHeld hXl (.int .u64 0) (.int .u64 0) (.int .i64 0) (.slice ah lh ch) (.slice al lt ct)
    go_simp
    go_wp2_with fail
    refine hK.out _ _ hbt (fun _ => ?_)
    clear hK hHeld K
    have hHeld := hbt
    clear hbt
    refine held_take (i := 8) (v := ?_) 4 rfl (by kernel_rfl) (by kernel_rfl) (by kernel_rfl) (fun _ _ _ h => h) rfl (by assumption) (Or.inl ⟨by rfl, ?_⟩) ?_
    rotate_left
    · intro w hSw; go_simp; (try with_reducible rfl)
    simp only [List.set_cons_zero, List.set_cons_succ]
    refine wpAnyH_done (by kernel_rfl) ?_ _
    have hE2 := hE.step hHeld
    have hP2 := hP.below hHeld
    go_wp2_with fail
    refine (newer_any ⟨9, 0, 0, [], []⟩ ⟨0, 0, 0, [], []⟩ none none none none 0 0 0 0 0 0 0 0 false true _).mono ?_
    rintro e w90 ⟨rfl, hb⟩
    replace hE2 := hE2.step hb
    replace hP2 := hP2.below hb
    have k0 := cells_at hP2 0
    have k1 := cells_at hP2 1
    have k2 := cells_at hP2 2
    simp only [List.getElem?_toArray, List.getElem?_cons_zero, List.getElem?_cons_succ] at k0 k1 k2
    clear hb
    go_wp2_with fail
    refine (room_ok 64 16 3 w90 (by decide)).mono ?_
    rintro e w91 ⟨rfl, hb⟩
    replace hE2 := hE2.step hb
    go_wp2_with fail
    go_ret
    exact ⟨rfl, hE2.1⟩
end Go.Proofs.YtdglhonogopciaaDoor
