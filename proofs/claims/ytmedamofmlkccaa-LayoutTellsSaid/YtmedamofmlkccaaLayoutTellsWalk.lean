/- The walk of LayoutTells. -/
import Derived.Test.YtmedamofmlkccaaLaw19
import Derived.Test.YtmedamofmlkccaaSizedb
import Derived.Test.YtmedamofmlkccaaWithin
import Derived.Test.YtmedamofmlkccaaArg
import Derived.Test.YtmedamofmlkccaaHeld
import Derived.Laws.BitsAllLaws
import Derived.Deep.DeepCutAuto
namespace Go.Proofs.Ytmedamofmlkccaa
open Go.RowKit

theorem within_b (n lo hi : Int) (w : World) (h1 : lo ≤ hi) (h2 : -1000000000000000 ≤ lo) (h3 : hi ≤ 1000000000000000) :
    Calls Try.prog 18 #[.int .i64 n, .int .i64 lo, .int .i64 hi] w fun e w' => e = .returned (.int .i64 (within n lo hi)) ∧ Below w.heap.size w w' :=
  (within_any n lo hi w h1 h2 h3).mono fun e w' ⟨h, h'⟩ => ⟨h, by subst h'; exact Below.refl _ _⟩
theorem cfar {w : World} {b i : Nat} {v : Option Value} (h : w.cell? ⟨b, i, none⟩ = v) (hb : b < w.heap.size) (o : Obj) : (w.alloc o).cell? ⟨b, i, none⟩ = v :=
  ((Below.alloc (Below.refl _ _) (Nat.le_refl _) o).cell (p := ⟨b, i, none⟩) hb).trans h

set_option maxHeartbeats 8000000 in
set_option maxRecDepth 100000 in
theorem LayoutTells_walk (v0 : Value) (v1 : Value) (v2 : Value) (v3 : Value) (v4 : Value) (v5 : Value) (w : World) (h0 : Arg Try.prog w 3 v0) (h1 : Arg Try.prog w 3 v1) (h2 : Arg Try.prog w 26 v2) (h3 : Arg Try.prog w 3 v3) (h4 : Arg Try.prog w 5 v4) (h5 : Arg Try.prog w 26 v5) :
    Calls Try.prog 14 #[v0, v1, v2, v3, v4, v5] w fun e w' => e = .returned (.bool true) ∧ Below w.heap.size w w' := by
  obtain ⟨n0, rfl, _⟩ := h0.int Try.underlying3
  obtain ⟨i0, rfl, _⟩ := h1.int Try.underlying3
  obtain ⟨a0, len0, cap0, ys, rfl, hY⟩ := h2.bytes Try.underlying26 Try.underlying5 (by kernel_rfl)
  obtain ⟨iat, rfl, _⟩ := h3.int Try.underlying3
  obtain ⟨z, rfl, hz⟩ := h4.int Try.underlying5
  obtain ⟨t, rfl⟩ : ∃ t : UInt8, (t.toNat : Int) = z := ⟨byteOf z, byteOf_toNat hz⟩
  obtain ⟨a5, len5, cap5, bs, rfl, hZ⟩ := h5.bytes Try.underlying26 Try.underlying5 (by kernel_rfl)
  clear h0 h1 h2 h3 h4 h5 hz
  obtain ⟨H, hH⟩ : ∃ H, H = w.heap.size := ⟨_, rfl⟩
  have HH := Lib.hid hH
  have hYY : ∀ W, Below H w W → Bs W a0 len0 cap0 ys := fun W hb => hY.below (by rw [← hH]; exact hb)
  have hZZ : ∀ W, Below H w W → Bs W a5 len5 cap5 bs := fun W hb => hZ.below (by rw [← hH]; exact hb)
  have HYZ := Lib.hid (And.intro hYY hZZ)
  have hE0 := Ext.refl w
  rw [← hH] at hE0
  clear hYY hZZ hY hZ hH
  go_enter Try.func14, Try.ntmps14
  go_wp2_with fail
  refine (within_any n0 0 4032 _ (by omega) (by omega) (by omega)).mono ?_
  rintro e w0 ⟨rfl, rfl⟩
  have hm := within_bd n0 0 4032 (by omega)
  generalize within n0 0 4032 = mi at *
  have hw0 : IntKind.i64.wrap (64 + mi) = 64 + mi := IntWalk.i64_in _ (by omega)
  obtain ⟨M, hM⟩ : ∃ M, M = 64 + mi := ⟨_, rfl⟩
  go_upto_region 2 with fail
  rw [← hM]
  have hM1 : 64 ≤ M := by omega
  have hM2 : M ≤ 4096 := by omega
  clear hM hm hw0
  go_wp2_with fail
  refine (of_ok M _ hM1 hM2).mono ?_
  rintro e w1 ⟨rfl, hb1⟩
  have hE1 := hE0.step hb1
  generalize hG : seg M = G
  have HG := Lib.hid hG
  clear hG hb1 hE0
  have hE2 := hE1.alloc (.cells #[.int .i64 M, .int .i64 (M / 4), .int .i64 G] 76)
  have hlX := size_alloc w1 (.cells #[.int .i64 M, .int .i64 (M / 4), .int .i64 G] 76)
  have C := cell_new w1 #[.int .i64 M, .int .i64 (M / 4), .int .i64 G] 76
  have p0 := C 0; have p1 := C 1; have p2 := C 2
  simp only [List.getElem?_toArray, List.getElem?_cons_zero, List.getElem?_cons_succ] at p0 p1 p2
  clear C hE1
  go_upto_region 3 with fail
  generalize w1.alloc _ = w2 at *
  generalize w1.heap.size = X at *
  have HPX := Lib.hid (And.intro p0 (And.intro p1 p2))
  clear p0 p1 p2
  go_wp2_with fail
  refine (rof_ok M _ hM1 hM2).mono ?_
  rintro e w3 ⟨rfl, hb3⟩
  rw [HG.out]
  have hE3 := hE2.step hb3
  have p0 := (hb3.cell (p := ⟨X, 0, none⟩) hlX).trans HPX.out.1
  have p1 := (hb3.cell (p := ⟨X, 1, none⟩) hlX).trans HPX.out.2.1
  have p2 := (hb3.cell (p := ⟨X, 2, none⟩) hlX).trans HPX.out.2.2
  have hlX := Nat.lt_of_lt_of_le hlX hb3.size
  clear hE2 hb3 HPX
  have hE := hE3.alloc (.cells #[.int .i64 M, .int .i64 (M / 4), .int .i64 G] 79)
  have hlY := size_alloc w3 (.cells #[.int .i64 M, .int .i64 (M / 4), .int .i64 G] 79)
  have C := cell_new w3 #[.int .i64 M, .int .i64 (M / 4), .int .i64 G] 79
  have q0 := C 0; have q1 := C 1; have q2 := C 2
  simp only [List.getElem?_toArray, List.getElem?_cons_zero, List.getElem?_cons_succ] at q0 q1 q2
  have hXY : X < w3.heap.size := hlX
  have p0 := cfar p0 hXY (.cells #[.int .i64 M, .int .i64 (M / 4), .int .i64 G] 79)
  have p1 := cfar p1 hXY (.cells #[.int .i64 M, .int .i64 (M / 4), .int .i64 G] 79)
  have p2 := cfar p2 hXY (.cells #[.int .i64 M, .int .i64 (M / 4), .int .i64 G] 79)
  have hlX4 := Nat.lt_trans hlX hlY
  clear C hE3 hXY hlX
  go_upto_region 4 with fail
  generalize w3.alloc _ = w4 at *
  generalize w3.heap.size = Y at *
  have zM : (M == M) = true := beq_self_eq_true _
  have zG : (G == G) = true := beq_self_eq_true _
  have zQ : (M / 4 == M / 4) = true := beq_self_eq_true _
  go_cut [80] (fun s wx => s = .bool false ∧ Ext H w wx)
  case first =>
    obtain ⟨wd, hwd⟩ : ∃ wd, wd = w4.drew := ⟨_, rfl⟩
    have hb : Below w4.heap.size w4 wd := by rw [hwd]; exact (Below.refl _ _).drew
    clear hb
    have HWD : Below w4.heap.size w4 wd := by rw [hwd]; exact (Below.refl _ _).drew
    refine held_start (by kernel_rfl) (fun hHeld => ?_)
    rw [← hwd] at hHeld ⊢
    have hE := hE.step HWD
    have p0 := (HWD.cell (p := ⟨X, 0, none⟩) hlX4).trans p0
    have p1 := (HWD.cell (p := ⟨X, 1, none⟩) hlX4).trans p1
    have p2 := (HWD.cell (p := ⟨X, 2, none⟩) hlX4).trans p2
    have q0 := (HWD.cell (p := ⟨Y, 0, none⟩) hlY).trans q0
    have q1 := (HWD.cell (p := ⟨Y, 1, none⟩) hlY).trans q1
    have q2 := (HWD.cell (p := ⟨Y, 2, none⟩) hlY).trans q2
    have hlX := Nat.lt_of_lt_of_le hlX4 HWD.size
    have hlY := Nat.lt_of_lt_of_le hlY HWD.size
    clear HWD hwd
    refine held_take (i := 0) (v := ?_) 35 rfl (by kernel_rfl) (by kernel_rfl) (by kernel_rfl) (fun _ _ _ h => h) rfl (by assumption) (Or.inl ⟨by rfl, ?_⟩) ?_
    rotate_left
    · intro w hSw; go_simp; (try with_reducible rfl)
    simp only [List.set_cons_zero, List.set_cons_succ]
    refine held_take (i := 1) (v := ?_) 36 rfl (by kernel_rfl) (by kernel_rfl) (by kernel_rfl) (fun _ _ _ h => h) rfl (by assumption) (Or.inl ⟨by rfl, ?_⟩) ?_
    rotate_left
    · intro w hSw; obtain ⟨hc, hf⟩ := bcell hSw; go_simp; (try with_reducible rfl)
    simp only [List.set_cons_zero, List.set_cons_succ]
    refine held_take (i := 2) (v := ?_) 37 rfl (by kernel_rfl) (by kernel_rfl) (by kernel_rfl) (fun _ _ _ h => h) rfl (by assumption) (Or.inl ⟨by rfl, ?_⟩) ?_
    rotate_left
    · intro w hSw; go_simp; (try with_reducible rfl)
    simp only [List.set_cons_zero, List.set_cons_succ]
    refine held_take (i := 3) (v := ?_) 38 rfl (by kernel_rfl) (by kernel_rfl) (by kernel_rfl) (fun _ _ _ h => h) rfl (by assumption) (Or.inl ⟨by rfl, ?_⟩) ?_
    rotate_left
    · intro w hSw; obtain ⟨hc, hf⟩ := bcell hSw; go_simp; (try with_reducible rfl)
    simp only [List.set_cons_zero, List.set_cons_succ]
    refine held_take (i := 4) (v := ?_) 39 rfl (by kernel_rfl) (by kernel_rfl) (by kernel_rfl) (fun _ _ _ h => h) rfl (by assumption) (Or.inl ⟨by rfl, ?_⟩) ?_
    rotate_left
    · intro w hSw; go_simp; (try with_reducible rfl)
    simp only [List.set_cons_zero, List.set_cons_succ]
    refine held_take (i := 5) (v := ?_) 40 rfl (by kernel_rfl) (by kernel_rfl) (by kernel_rfl) (fun _ _ _ h => h) rfl (by assumption) (Or.inl ⟨by rfl, ?_⟩) ?_
    rotate_left
    · intro w hSw; go_simp; (try with_reducible rfl)
    simp only [List.set_cons_zero, List.set_cons_succ]
    refine held_take (i := 6) (v := ?_) 41 rfl (by kernel_rfl) (by kernel_rfl) (by kernel_rfl) (fun _ _ _ h => h) rfl (by assumption) (Or.inl ⟨by rfl, ?_⟩) ?_
    rotate_left
    · intro w hSw; go_simp; (try with_reducible rfl)
    simp only [List.set_cons_zero, List.set_cons_succ]
    refine held_take (i := 7) (v := ?_) 42 rfl (by kernel_rfl) (by kernel_rfl) (by kernel_rfl) (fun _ _ _ h => h) rfl (by assumption) (Or.inl ⟨by rfl, ?_⟩) ?_
    rotate_left
    · intro w hSw; obtain ⟨hc, hf⟩ := bcell hSw; go_simp; (try with_reducible rfl)
    simp only [List.set_cons_zero, List.set_cons_succ]
    refine held_take (i := 8) (v := ?_) 43 rfl (by kernel_rfl) (by kernel_rfl) (by kernel_rfl) (fun _ _ _ h => h) rfl (by assumption) (Or.inl ⟨by rfl, ?_⟩) ?_
    rotate_left
    · intro w hSw; go_simp; (try with_reducible rfl)
    simp only [List.set_cons_zero, List.set_cons_succ]
    refine held_take (i := 9) (v := ?_) 44 rfl (by kernel_rfl) (by kernel_rfl) (by kernel_rfl) (fun _ _ _ h => h) rfl (by assumption) (Or.inl ⟨by rfl, ?_⟩) ?_
    rotate_left
    · intro w hSw; obtain ⟨hc, hf⟩ := bcell hSw; go_simp; (try with_reducible rfl)
    simp only [List.set_cons_zero, List.set_cons_succ]
    refine held_take (i := 10) (v := ?_) 45 rfl (by kernel_rfl) (by kernel_rfl) (by kernel_rfl) (fun _ _ _ h => h) rfl (by assumption) (Or.inl ⟨by rfl, ?_⟩) ?_
    rotate_left
    · intro w hSw; go_simp; (try with_reducible rfl)
    simp only [List.set_cons_zero, List.set_cons_succ]
    refine held_take (i := 11) (v := ?_) 46 rfl (by kernel_rfl) (by kernel_rfl) (by kernel_rfl) (fun _ _ _ h => h) rfl (by assumption) (Or.inl ⟨by rfl, ?_⟩) ?_
    rotate_left
    · intro w hSw; go_simp; (try with_reducible rfl)
    simp only [List.set_cons_zero, List.set_cons_succ]
    refine held_take (i := 12) (v := ?_) 47 rfl (by kernel_rfl) (by kernel_rfl) (by kernel_rfl) (fun _ _ _ h => h) rfl (by assumption) (Or.inl ⟨by rfl, ?_⟩) ?_
    rotate_left
    · intro w hSw; go_simp; (try with_reducible rfl)
    simp only [List.set_cons_zero, List.set_cons_succ]
    refine held_take (i := 13) (v := ?_) 48 rfl (by kernel_rfl) (by kernel_rfl) (by kernel_rfl) (fun _ _ _ h => h) rfl (by assumption) (Or.inl ⟨by rfl, ?_⟩) ?_
    rotate_left
    · intro w hSw; go_simp; (try with_reducible rfl)
    simp only [List.set_cons_zero, List.set_cons_succ]
    refine held_take (i := 14) (v := ?_) 49 rfl (by kernel_rfl) (by kernel_rfl) (by kernel_rfl) (fun _ _ _ h => h) rfl (by assumption) (Or.inl ⟨by rfl, ?_⟩) ?_
    rotate_left
    · intro w hSw; obtain ⟨hc, hf⟩ := bcell hSw; go_simp; (try with_reducible rfl)
    simp only [List.set_cons_zero, List.set_cons_succ]
    refine held_take (i := 15) (v := ?_) 50 rfl (by kernel_rfl) (by kernel_rfl) (by kernel_rfl) (fun _ _ _ h => h) rfl (by assumption) (Or.inl ⟨by rfl, ?_⟩) ?_
    rotate_left
    · intro w hSw; go_simp; (try with_reducible rfl)
    simp only [List.set_cons_zero, List.set_cons_succ]
    refine held_take (i := 16) (v := ?_) 51 rfl (by kernel_rfl) (by kernel_rfl) (by kernel_rfl) (fun _ _ _ h => h) rfl (by assumption) (Or.inl ⟨by rfl, ?_⟩) ?_
    rotate_left
    · intro w hSw; obtain ⟨hc, hf⟩ := bcell hSw; go_simp; (try with_reducible rfl)
    simp only [List.set_cons_zero, List.set_cons_succ]
    refine held_take (i := 17) (v := ?_) 52 rfl (by kernel_rfl) (by kernel_rfl) (by kernel_rfl) (fun _ _ _ h => h) rfl (by assumption) (Or.inl ⟨by rfl, ?_⟩) ?_
    rotate_left
    · intro w hSw; go_simp; (try with_reducible rfl)
    simp only [List.set_cons_zero, List.set_cons_succ]
    refine held_take (i := 18) (v := ?_) 53 rfl (by kernel_rfl) (by kernel_rfl) (by kernel_rfl) (fun _ _ _ h => h) rfl (by assumption) (Or.inl ⟨by rfl, ?_⟩) ?_
    rotate_left
    · intro w hSw; go_simp; (try with_reducible rfl)
    simp only [List.set_cons_zero, List.set_cons_succ]
    refine held_take (i := 19) (v := ?_) 54 rfl (by kernel_rfl) (by kernel_rfl) (by kernel_rfl) (fun _ _ _ h => h) rfl (by assumption) (Or.inl ⟨by rfl, ?_⟩) ?_
    rotate_left
    · intro w hSw; go_simp; (try with_reducible rfl)
    simp only [List.set_cons_zero, List.set_cons_succ]
    refine held_take (i := 20) (v := ?_) 55 rfl (by kernel_rfl) (by kernel_rfl) (by kernel_rfl) (fun _ _ _ h => h) rfl (by assumption) (Or.inl ⟨by rfl, ?_⟩) ?_
    rotate_left
    · intro w hSw; go_simp; (try with_reducible rfl)
    simp only [List.set_cons_zero, List.set_cons_succ]
    refine held_take (i := 21) (v := ?_) 56 rfl (by kernel_rfl) (by kernel_rfl) (by kernel_rfl) (fun _ _ _ h => h) rfl (by assumption) (Or.inl ⟨by rfl, ?_⟩) ?_
    rotate_left
    · intro w hSw; go_simp; (try with_reducible rfl)
    simp only [List.set_cons_zero, List.set_cons_succ]
    refine held_take (i := 22) (v := ?_) 57 rfl (by kernel_rfl) (by kernel_rfl) (by kernel_rfl) (fun _ _ _ h => h) rfl (by assumption) (Or.inl ⟨by rfl, ?_⟩) ?_
    rotate_left
    · intro w hSw; go_simp; (try with_reducible rfl)
    simp only [List.set_cons_zero, List.set_cons_succ]
    refine held_take (i := 23) (v := ?_) 58 rfl (by kernel_rfl) (by kernel_rfl) (by kernel_rfl) (fun _ _ _ h => h) rfl (by assumption) (Or.inl ⟨by rfl, ?_⟩) ?_
    rotate_left
    · intro w hSw; go_simp; (try with_reducible rfl)
    simp only [List.set_cons_zero, List.set_cons_succ]
    refine held_take (i := 24) (v := ?_) 59 rfl (by kernel_rfl) (by kernel_rfl) (by kernel_rfl) (fun _ _ _ h => h) rfl (by assumption) (Or.inl ⟨by rfl, ?_⟩) ?_
    rotate_left
    · intro w hSw; go_simp; (try with_reducible rfl)
    simp only [List.set_cons_zero, List.set_cons_succ]
    refine held_take (i := 25) (v := ?_) 60 rfl (by kernel_rfl) (by kernel_rfl) (by kernel_rfl) (fun _ _ _ h => h) rfl (by assumption) (Or.inl ⟨by rfl, ?_⟩) ?_
    rotate_left
    · intro w hSw; obtain ⟨hc, hf⟩ := bcell hSw; go_simp; (try with_reducible rfl)
    simp only [List.set_cons_zero, List.set_cons_succ]
    refine held_take (i := 26) (v := ?_) 61 rfl (by kernel_rfl) (by kernel_rfl) (by kernel_rfl) (fun _ _ _ h => h) rfl (by assumption) (Or.inl ⟨by rfl, ?_⟩) ?_
    rotate_left
    · intro w hSw; go_simp; (try with_reducible rfl)
    simp only [List.set_cons_zero, List.set_cons_succ]
    refine wpAnyH_ready (rs := [27]) (by kernel_rfl) (by simp) ?_
    refine (AllReadyH.cons rfl (fun K hK => ?_) AllReadyH.nil)
    go_simp
    refine (law19_same M (M / 4) G i0 _).mono ?_
    rintro e w1x ⟨rfl, hb⟩
    have hbt := HB.trans hHeld hb
    go_wp2_with fail
    refine hK.out _ _ hbt (fun _ => ?_)
    clear hK hHeld K
    have hHeld := hbt
    clear hb hbt
    refine held_take (i := 28) (v := ?_) 63 rfl (by kernel_rfl) (by kernel_rfl) (by kernel_rfl) (fun _ _ _ h => h) rfl (by assumption) (Or.inl ⟨by rfl, ?_⟩) ?_
    rotate_left
    · intro w hSw; go_simp; (try with_reducible rfl)
    simp only [List.set_cons_zero, List.set_cons_succ]
    refine held_take (i := 29) (v := ?_) 64 rfl (by kernel_rfl) (by kernel_rfl) (by kernel_rfl) (fun _ _ _ h => h) rfl (by assumption) (Or.inl ⟨by rfl, ?_⟩) ?_
    rotate_left
    · intro w hSw; go_simp; (try with_reducible rfl)
    simp only [List.set_cons_zero, List.set_cons_succ]
    refine held_take (i := 30) (v := ?_) 65 rfl (by kernel_rfl) (by kernel_rfl) (by kernel_rfl) (fun _ _ _ h => h) rfl (by assumption) (Or.inl ⟨by rfl, ?_⟩) ?_
    rotate_left
    · intro w hSw; go_simp; (try with_reducible rfl)
    simp only [List.set_cons_zero, List.set_cons_succ]
    refine held_take (i := 31) (v := ?_) 66 rfl (by kernel_rfl) (by kernel_rfl) (by kernel_rfl) (fun _ _ _ h => h) rfl (by assumption) (Or.inl ⟨by rfl, ?_⟩) ?_
    rotate_left
    · intro w hSw; obtain ⟨hc, hf⟩ := bcell hSw; go_simp; (try with_reducible rfl)
    simp only [List.set_cons_zero, List.set_cons_succ]
    refine held_take (i := 32) (v := ?_) 67 rfl (by kernel_rfl) (by kernel_rfl) (by kernel_rfl) (fun _ _ _ h => h) rfl (by assumption) (Or.inl ⟨by rfl, ?_⟩) ?_
    rotate_left
    · intro w hSw; go_simp; (try with_reducible rfl)
    simp only [List.set_cons_zero, List.set_cons_succ]
    refine wpAnyH_ready (rs := [33]) (by kernel_rfl) (by simp) ?_
    refine (AllReadyH.cons rfl (fun K hK => ?_) AllReadyH.nil)
    go_simp
    refine (within_b i0 0 600 _ (by decide) (by decide) (by decide)).mono ?_
    rintro e w2x ⟨rfl, hb⟩
    have hbt := HB.trans hHeld hb
    go_wp2_with fail
    refine hK.out _ _ hbt (fun _ => ?_)
    clear hK hHeld K
    have hHeld := hbt
    clear hb hbt
    refine wpAnyH_ready (rs := [34]) (by kernel_rfl) (by simp) ?_
    refine (AllReadyH.cons rfl (fun K hK => ?_) AllReadyH.nil)
    go_simp
    refine (law19_same M (M / 4) G (within i0 0 600) _).mono ?_
    rintro e w3x ⟨rfl, hb⟩
    have hbt := HB.trans hHeld hb
    go_wp2_with fail
    refine hK.out _ _ hbt (fun _ => ?_)
    clear hK hHeld K
    have hHeld := hbt
    clear hb hbt
    refine held_take (i := 35) (v := ?_) 70 rfl (by kernel_rfl) (by kernel_rfl) (by kernel_rfl) (fun _ _ _ h => h) rfl (by assumption) (Or.inl ⟨by rfl, ?_⟩) ?_
    rotate_left
    · intro w hSw; go_simp; (try with_reducible rfl)
    simp only [List.set_cons_zero, List.set_cons_succ]
    refine held_take (i := 36) (v := ?_) 71 rfl (by kernel_rfl) (by kernel_rfl) (by kernel_rfl) (fun _ _ _ h => h) rfl (by assumption) (Or.inl ⟨by rfl, ?_⟩) ?_
    rotate_left
    · intro w hSw; go_simp; (try with_reducible rfl)
    simp only [List.set_cons_zero, List.set_cons_succ]
    refine held_take (i := 37) (v := ?_) 72 rfl (by kernel_rfl) (by kernel_rfl) (by kernel_rfl) (fun _ _ _ h => h) rfl (by assumption) (Or.inl ⟨by rfl, ?_⟩) ?_
    rotate_left
    · intro w hSw; go_simp; (try with_reducible rfl)
    simp only [List.set_cons_zero, List.set_cons_succ]
    refine held_take (i := 38) (v := ?_) 73 rfl (by kernel_rfl) (by kernel_rfl) (by kernel_rfl) (fun _ _ _ h => h) rfl (by assumption) (Or.inl ⟨by rfl, ?_⟩) ?_
    rotate_left
    · intro w hSw; go_simp; (try with_reducible rfl)
    simp only [List.set_cons_zero, List.set_cons_succ]
    refine held_take (i := 39) (v := ?_) 74 rfl (by kernel_rfl) (by kernel_rfl) (by kernel_rfl) (fun _ _ _ h => h) rfl (by assumption) (Or.inl ⟨by rfl, ?_⟩) ?_
    rotate_left
    · intro w hSw; go_simp; (try with_reducible rfl)
    simp only [List.set_cons_zero, List.set_cons_succ]
    refine held_take (i := 40) (v := ?_) 75 rfl (by kernel_rfl) (by kernel_rfl) (by kernel_rfl) (fun _ _ _ h => h) rfl (by assumption) (Or.inl ⟨by rfl, ?_⟩) ?_
    rotate_left
    · intro w hSw; go_simp; (try with_reducible rfl)
    simp only [List.set_cons_zero, List.set_cons_succ]
    refine held_take (i := 41) (v := ?_) 76 rfl (by kernel_rfl) (by kernel_rfl) (by kernel_rfl) (fun _ _ _ h => h) rfl (by assumption) (Or.inl ⟨by rfl, ?_⟩) ?_
    rotate_left
    · intro w hSw; go_simp; (try with_reducible rfl)
    simp only [List.set_cons_zero, List.set_cons_succ]
    refine held_take (i := 42) (v := ?_) 77 rfl (by kernel_rfl) (by kernel_rfl) (by kernel_rfl) (fun _ _ _ h => h) rfl (by assumption) (Or.inl ⟨by rfl, ?_⟩) ?_
    rotate_left
    · intro w hSw; go_simp; (try with_reducible rfl)
    simp only [List.set_cons_zero, List.set_cons_succ]
    refine wpAnyH_ready (rs := [43]) (by kernel_rfl) (by simp) ?_
    refine (AllReadyH.cons rfl (fun K hK => ?_) AllReadyH.nil)
    go_simp
    refine (law19_same n0 i0 M i0 _).mono ?_
    rintro e w4x ⟨rfl, hb⟩
    have hbt := HB.trans hHeld hb
    go_wp2_with fail
    refine hK.out _ _ hbt (fun _ => ?_)
    clear hK hHeld K
    have hHeld := hbt
    clear hb hbt
    refine held_take (i := 44) (v := ?_) 79 rfl (by kernel_rfl) (by kernel_rfl) (by kernel_rfl) (fun _ _ _ h => h) rfl (by assumption) (Or.inl ⟨by rfl, ?_⟩) ?_
    rotate_left
    · intro w hSw; go_simp; (try with_reducible rfl)
    simp only [List.set_cons_zero, List.set_cons_succ]
    refine held_take (i := 45) (v := ?_) 80 rfl (by kernel_rfl) (by kernel_rfl) (by kernel_rfl) (fun _ _ _ h => h) rfl (by assumption) (Or.inl ⟨by rfl, ?_⟩) ?_
    rotate_left
    · intro w hSw; go_simp; (try with_reducible rfl)
    simp only [List.set_cons_zero, List.set_cons_succ]
    refine wpAnyH_done (by kernel_rfl) ?_ _
    go_wp2_with fail
    go_meet
    exact ⟨rfl, hE.step hHeld⟩
  case rest =>
  obtain ⟨rfl, hE⟩ := hcut
  clear p0 p1 p2 q0 q1 q2 hlX4 hlY zM zG zQ
  obtain ⟨m, rfl⟩ : ∃ m : Nat, M = (m : Int) := ⟨M.toNat, by omega⟩
  have hid := sizedOf_length 16 ys
  have hL := supBytes_length m (sizedOf 16 ys) hid
  have HS := Lib.hid (fun W h => sized_any 16 a0 len0 cap0 ys W h (by decide))
  generalize sizedOf 16 ys = id at *
  go_wp2_with fail
  refine (HS.out _ (HYZ.out.1 _ hE.1)).mono ?_
  rintro e w5 ⟨v5, rfl, ho5, hb5⟩
  have hE5 := hE.step hb5
  obtain ⟨a1, c1, rfl, hB1⟩ := ho5.bsn hid
  clear hE hb5 ho5
  go_wp2_with fail
  refine (rsuper_ok m a1 c1 id w5 hB1 (by omega) (by omega)).mono ?_
  rintro e w6 ⟨v6, rfl, ho6, hb6⟩
  have hE6 := hE5.step hb6
  have hHg := hE5.2
  obtain ⟨g, cg, rfl, hgz, hRow⟩ : ∃ g cg, v6 = .slice (some ⟨g, 0, none⟩) 128 cg ∧ w5.heap.size ≤ g ∧ Row w6 g cg (supBytes m id) := by
    rcases ho6.parts with ⟨_, h2⟩ | ⟨g, c, h1, h2, h3⟩
    · rw [h2] at hL; cases hL
    · exact ⟨g, c, by rw [h1, hL], h2, h3⟩
  have hgH : H ≤ g := Nat.le_trans hHg hgz
  clear hE5 hb6 ho6 hB1 hgz hHg
  go_wp2_with fail
  refine (HS.out _ (HYZ.out.1 _ hE6.1)).mono ?_
  rintro e w7 ⟨v7, rfl, ho7, hb7⟩
  have hE7 := hE6.step hb7
  have hRow7 := hRow.below hb7
  obtain ⟨a2, c2, rfl, hB2⟩ := ho7.bsn hid
  clear hE6 hb7 ho7 hRow
  go_wp2_with fail
  refine (super_ok m a2 c2 id w7 hB2 (by omega) (by omega)).mono ?_
  rintro e w8 ⟨v8, rfl, ho8, hb8⟩
  have hE8 := hE7.step hb8
  have hRow8 := hRow7.below hb8
  obtain ⟨a3, c3, rfl, hB3⟩ := ho8.bsn hL
  clear hE7 hb8 ho8 hRow7 hB2
  generalize supBytes m id = L at *
  have hBx := hRow8.bs
  rw [hL] at hBx
  have s1 := run_string hBx
  have s2 := run_string hB3
  have z1 : (!(strOf L).toList == (strOf L).toList) = false := by rw [beq_self_eq_true]; rfl
  clear HS
  go_wp2_with fail
  refine (law19_read _ 128 cg L w8 hBx (by unfold big; decide)).mono ?_
  rintro e w9 ⟨rfl, hb9⟩
  have hE9 := hE8.step hb9
  have hRow9 := hRow8.below hb9
  have HSB := Lib.hid (fun W h => sized_any 128 a5 len5 cap5 bs W h (by decide))
  have hbl := sizedOf_length 128 bs
  generalize sizedOf 128 bs = sb at *
  clear hE8 hb9 hRow8 hBx s1 s2 z1 hB3
  go_wp2_with fail
  refine (HSB.out _ (HYZ.out.2 _ hE9.1)).mono ?_
  rintro e w10 ⟨v10, rfl, ho10, hb10⟩
  have hE10 := hE9.step hb10
  have hRow10 := hRow9.below hb10
  obtain ⟨a4, c4, rfl, hB4⟩ := ho10.bsn hbl
  clear hE9 hb10 hRow9 ho10 HSB
  go_wp2_with fail
  refine (law19_read a4 128 c4 sb w10 hB4 (by unfold big; decide)).mono ?_
  rintro e w11 ⟨rfl, hb11⟩
  have hE11 := hE10.step hb11
  have hRow11 := hRow10.below hb11
  clear hE10 hb11 hRow10 hB4
  go_wp2_with fail
  refine (within_any iat 0 127 _ (by decide) (by decide) (by decide)).mono ?_
  rintro e w12 ⟨rfl, rfl⟩
  have hi := within_bd iat 0 127 (by decide)
  generalize within iat 0 127 = ii at *
  obtain ⟨i, rfl⟩ : ∃ i : Nat, ii = (i : Int) := ⟨ii.toNat, by omega⟩
  have hiL : i < L.length := by omega
  have hi1 : (i : Int) < 128 := by omega
  have hc := hRow11.cell i hiL
  have hfz := hRow11.frozen i
  have hcl := hRow11.len
  have hxo := u8_xor_nat (L[i]).toNat t.toNat (UInt8.toNat_lt _) (UInt8.toNat_lt _)
  have hR15 := hRow11.set i (L[i] ^^^ t)
  rw [UInt8.toNat_xor] at hR15
  have hE15 := hE11.setCell (p := ⟨g, i, none⟩) hgH (.int .u8 (((L[i]).toNat ^^^ t.toNat : Nat) : Int))
  have hl15 : (L.set i (L[i] ^^^ t)).length = 128 := by rw [List.length_set]; exact hL
  go_upto_region 11 with fail
  generalize w11.setCell ⟨g, i, none⟩ (.int .u8 (((L[i]).toNat ^^^ t.toNat : Nat) : Int)) = w15 at *
  clear hc hfz hxo hRow11 hE11
  generalize L.set i (L[i] ^^^ t) = L2 at *
  have hB15 := hR15.bs
  rw [hl15] at hB15
  clear hR15 hi hi1 hcl hl15
  go_wp2_with fail
  refine (law19_read _ 128 _ _ _ hB15 (by unfold big; decide)).mono ?_
  rintro e w16 ⟨rfl, hb16⟩
  have hE16 := hE15.step hb16
  go_wp2_with fail
  refine (layout_known _).mono ?_
  rintro e w17 ⟨rfl, hb17⟩
  go_wp2_with fail
  go_ret
  rw [← HH.out]
  exact ⟨rfl, (hE16.step hb17).1⟩
end Go.Proofs.Ytmedamofmlkccaa
