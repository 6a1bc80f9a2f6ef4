/- The walk of PointRooms. -/
import Derived.Test.YtdglhonogopciaaDoorPtBack
namespace Go.Proofs.YtdglhonogopciaaDoor
open Go.RowKit

theorem Row.store5 {w : World} {g cap : Nat} {xs : List UInt8} (h : Row w g cap xs) {b : Nat} (hb : g ≠ b) (v0 v1 v2 v3 v4 : Value) :
    Row (((((w.setCell ⟨b, 0, none⟩ v0).setCell ⟨b, 1, none⟩ v1).setCell ⟨b, 2, none⟩ v2).setCell ⟨b, 3, none⟩ v3).setCell ⟨b, 4, none⟩ v4) g cap xs :=
  ((((h.setOther (a := ⟨b, 0, none⟩) hb _).setOther (a := ⟨b, 1, none⟩) hb _).setOther (a := ⟨b, 2, none⟩) hb _).setOther (a := ⟨b, 3, none⟩) hb _).setOther (a := ⟨b, 4, none⟩) hb _
set_option maxHeartbeats 1000000 in
set_option maxRecDepth 100000 in
theorem prooms_any (n : Int) (x : UInt8) (w : World) : Calls Tryd.prog 7 #[.int .i64 n, .int .u8 (x.toNat : Int)] w fun e w' => e = .returned (.bool true) ∧ Below w.heap.size w w' := by
  have HPA := Lib.hid (plan_any n w)
  have hpl := ptPlan n
  have hbd := ptSz_bd n
  generalize ptSz n = sz at *
  generalize seg sz = g at *
  have hp1 : 16 ≤ sz / 4 ∧ sz / 4 ≤ 66 := by omega
  generalize sz / 4 = p at *
  clear hbd
  obtain ⟨R, hR⟩ : ∃ R : Nat, 128 * p - 94 = (R : Int) := ⟨(128 * p - 94).toNat, by omega⟩
  obtain ⟨K, hK⟩ : ∃ K : Nat, K = R + 1 := ⟨_, rfl⟩
  have HRM := Lib.hid (fun w => room_ok sz p g w hpl)
  rw [hR] at HRM
  have HPL := Lib.hid hpl
  have hRb : 1954 ≤ R ∧ R ≤ 8354 := by omega
  have i1 : IntKind.i64.wrap (p * 128) = p * 128 := IntWalk.i64_in _ (by omega)
  have i2 : IntKind.i64.wrap ((R : Int) + 1) = (K : Int) := by rw [IntWalk.i64_in _ (by omega)]; omega
  have e1 : ¬ (R : Int) < 1 := by omega
  have e2 : ¬ p * 128 ≤ (R : Int) := by omega
  have HRb := Lib.hid (And.intro hR (And.intro hK (And.intro hRb hp1)))
  have hKm : K ≤ 281474976710656 := by omega
  have hE := Ext.refl w
  obtain ⟨H, hH⟩ : ∃ H, H = w.heap.size := ⟨_, rfl⟩
  rw [← hH] at hE ⊢
  clear hpl hp1 hR hK hRb hH
  go_enter Tryd.func7, Tryd.ntmps7
  go_wp2_with fail
  refine HPA.out.mono ?_
  rintro e w1 ⟨rfl, hb⟩
  replace hE := hE.step hb
  clear hb HPA
  have hP : AtC ((w1.alloc (.cells #[.int .i64 sz, .int .i64 p, .int .i64 g] 31)).alloc (.cells #[.int .i64 sz, .int .i64 p, .int .i64 g] 32)) w1.heap.size (.cells #[.int .i64 sz, .int .i64 p, .int .i64 g] 31 (0, 0)) := (Below.heap_alloc (w1.alloc (.cells #[.int .i64 sz, .int .i64 p, .int .i64 g] 31)) _ w1.heap.size (by simp)).trans (heap_alloc_new w1 _)
  replace hE := (hE.alloc (.cells #[.int .i64 sz, .int .i64 p, .int .i64 g] 31)).alloc (.cells #[.int .i64 sz, .int .i64 p, .int .i64 g] 32)
  have p0 := cells_at hP 0
  have p1 := cells_at hP 1
  have p2 := cells_at hP 2
  simp only [List.getElem?_toArray, List.getElem?_cons_zero, List.getElem?_cons_succ] at p0 p1 p2
  go_wp2_with fail
  generalize ((w1.alloc (.cells #[.int .i64 sz, .int .i64 p, .int .i64 g] 31)).alloc (.cells #[.int .i64 sz, .int .i64 p, .int .i64 g] 32)) = w2 at *
  obtain ⟨P, hPe⟩ : ∃ P, P = w1.heap.size := ⟨_, rfl⟩
  rw [← hPe] at hP ⊢
  clear hPe p0 p1 p2
  refine (HRM.out _).mono ?_
  rintro e w3 ⟨rfl, hb⟩
  replace hE := hE.step hb
  replace hP := hP.below hb
  clear hb
  have p0 := cells_at hP 0
  have p1 := cells_at hP 1
  have p2 := cells_at hP 2
  simp only [List.getElem?_toArray, List.getElem?_cons_zero, List.getElem?_cons_succ] at p0 p1 p2
  have hrun := run_make_bytes K hKm w3
  have hrow := Row.zero w3 K (by unfold maxLen; omega)
  have hPz := hP.below ((Below.refl _ _).alloc (Nat.le_refl _) (.cells (madeCells #[.int .u8 0] K) TB))
  have hEz := hE.alloc (.cells (madeCells #[.int .u8 0] K) TB)
  have hHl := hE.2
  go_wp2_with fail
  generalize w3.alloc (.cells (madeCells #[.int .u8 0] K) TB) = w4 at *
  obtain ⟨GS, hGe⟩ : ∃ GS, GS = w3.heap.size := ⟨_, rfl⟩
  have hGP : P < GS := by rw [hGe]; exact lt_of_heap hP
  have hHG : H ≤ GS := by rw [hGe]; exact hHl
  rw [← hGe] at hrow ⊢
  clear hE hP hrun hGe hHl p0 p1 p2
  have HGP := Lib.hid (And.intro hGP hHG)
  clear hGP hHG
  go_loopw [9] (fun i wx => ∃ k : Nat, i = .int .i64 (k : Int) ∧ k ≤ K ∧ Row wx GS K (List.replicate k x ++ List.replicate (K - k) 0) ∧ AtC wx P (.cells #[.int .i64 sz, .int .i64 p, .int .i64 g] 31 (0, 0)) ∧ Ext H w wx) (fun i _ => K - (intOf i).toNat)
  case atStart => exact ⟨0, rfl, Nat.zero_le _, by simpa using hrow, hPz, hEz⟩
  case round =>
    obtain ⟨k, rfl, hk, hrow, hP, hE⟩ := hrel
    clear hPz hEz
    by_cases hlt : k < K
    · have k1 : (k : Int) < (K : Int) := by omega
      have k0 : (0 : Int) ≤ (k : Int) := by omega
      have i5 : IntKind.i64.wrap ((k : Int) + 1) = ((k + 1 : Nat) : Int) := by rw [IntWalk.i64_in _ (by omega)]; omega
      have c0 := hrow.cell k (by simp; omega)
      have f0 := hrow.frozen k
      have hrow2 := hrow.set k x
      rw [fill_set k K x hlt] at hrow2
      have hP2 : AtC (wr.setCell ⟨GS, k, none⟩ (.int .u8 (x.toNat : Int))) P (.cells #[.int .i64 sz, .int .i64 p, .int .i64 g] 31 (0, 0)) := cells_far hP (by have := HGP.out.1; omega)
      have hE2 := hE.setCell (p := ⟨GS, k, none⟩) HGP.out.2 (.int .u8 (x.toNat : Int))
      clear hrow hP hE
      go_wp2_with fail
      go_roundw
      case rel => exact ⟨k + 1, by go_num, hlt, hrow2, hP2, hE2⟩
      case measure => simp [intOf]; omega
    · obtain rfl : k = K := by omega
      rw [Nat.sub_self, List.replicate_zero, List.append_nil] at hrow
      have hRK : (R : Int) ≤ (k : Int) := by have := HRb.out.2.1; omega
      have hRK2 : R ≤ k := by have := HRb.out.2.1; omega
      have hS := hrow
      go_upto_region 10 with fail
      go_cut [10] (fun v wx => ∃ M Z, v = .pointer (some ⟨M, 0, none⟩) ∧ AtC wx M (.cells #[.int .u64 1, .int .u64 0, .int .i64 0, .slice (some ⟨Z, 0, none⟩) 32 32, .slice (some ⟨GS, 0, none⟩) R k] 25 (0, 0)) ∧ Row wx Z 32 (List.replicate 32 0) ∧ Row wx GS k (List.replicate k x) ∧ AtC wx P (.cells #[.int .i64 sz, .int .i64 p, .int .i64 g] 31 (0, 0)) ∧ Ext H w wx ∧ (GS < M ∧ P < M ∧ H ≤ M) ∧ Z ≠ M)
      case first =>
        clear HPL HRM
        obtain ⟨wd, hwd⟩ : ∃ wd, wd = wr.drew := ⟨_, rfl⟩
        have hb : Below wr.heap.size wr wd := by rw [hwd]; exact (Below.refl _ _).drew
        have hP := hP.below hb
        have hS := hS.below hb
        have hE := hE.step hb
        clear hb
        refine held_start (by kernel_rfl) (fun hHeld => ?_)
        rw [← hwd] at hHeld ⊢
        clear hwd
        refine held_take (i := 1) (v := ?_) 47 rfl (by kernel_rfl) (by kernel_rfl) (by kernel_rfl) (fun _ _ _ h => h) rfl (by assumption) (Or.inl ⟨by rfl, ?_⟩) ?_
        rotate_left
        · intro w hSw; go_simp; (try with_reducible rfl)
        simp only [List.set_cons_zero, List.set_cons_succ]
        refine held_take (i := 2) (v := ?_) 48 rfl (by kernel_rfl) (by kernel_rfl) (by kernel_rfl) (fun _ _ _ h => h) rfl (by assumption) (Or.inl ⟨by rfl, ?_⟩) ?_
        rotate_left
        · intro w hSw; go_simp; (try with_reducible rfl)
        simp only [List.set_cons_zero, List.set_cons_succ]
        refine held_take (i := 3) (v := ?_) 49 rfl (by kernel_rfl) (by kernel_rfl) (by kernel_rfl) (fun _ _ _ h => h) rfl (by assumption) (Or.inl ⟨by rfl, ?_⟩) ?_
        rotate_left
        · intro w hSw; go_simp; (try with_reducible rfl)
        simp only [List.set_cons_zero, List.set_cons_succ]
        refine wpAnyH_ready (rs := [0, 5]) (by kernel_rfl) (by simp) ?_
        refine (AllReadyH.cons rfl (fun K hK => ?_) (AllReadyH.cons rfl (fun K hK => ?_) AllReadyH.nil))
        · have hrun : (Instr.makeSlice 23 (.int .i64 (32 : Int)) (.int .i64 (32 : Int))).run Tryd.prog wd = .ok (.slice (some ⟨wd.heap.size, 0, none⟩) 32 32) (wd.alloc (.cells (madeCells #[.int .u8 0] 32) TB)) := run_make_bytes 32 (by omega) wd
          have hZr := Row.zero wd 32 (by unfold maxLen; omega)
          have hb : HB wd (wd.alloc (.cells (madeCells #[.int .u8 0] 32) TB)) := (HB.refl _).alloc _
          have hbt := HB.trans hHeld hb
          go_simp
          obtain ⟨Z, hZe⟩ : ∃ Z, Z = wd.heap.size := ⟨_, rfl⟩
          have hZl : wd.heap.size ≤ Z := by rw [hZe]; exact Below.size hHeld
          rw [← hZe] at hZr
          (try rw [← hZe])
          generalize wd.alloc (.cells (madeCells #[.int .u8 0] 32) TB) = w1x at *
          clear hrun hb hZe
          go_wp2_with fail
          refine hK.out _ _ hbt (fun _ => ?_)
          clear hK hHeld K
          have hHeld := hbt
          clear hbt
          refine held_take (i := 4) (v := ?_) 50 rfl (by kernel_rfl) (by kernel_rfl) (by kernel_rfl) (fun _ _ _ h => h) rfl (by assumption) (Or.inl ⟨by rfl, ?_⟩) ?_
          rotate_left
          · intro w hSw; go_simp; (try with_reducible rfl)
          simp only [List.set_cons_zero, List.set_cons_succ]
          refine wpAnyH_ready (rs := [5]) (by kernel_rfl) (by simp) ?_
          refine (AllReadyH.cons rfl (fun K hK => ?_) AllReadyH.nil)
          have hX : AtC (w1x.alloc (.cells #[.int .u64 0, .int .u64 0, .int .i64 0, .slice none 0 0, .slice none 0 0] 25)) w1x.heap.size (.cells #[.int .u64 0, .int .u64 0, .int .i64 0, .slice none 0 0, .slice none 0 0] 25 (0, 0)) := heap_alloc_new w1x _
          obtain ⟨X, hXe⟩ : ∃ X, X = w1x.heap.size := ⟨_, rfl⟩
          have hXl : wd.heap.size ≤ X := by rw [hXe]; exact Below.size hHeld
          have hb : HB w1x (w1x.alloc (.cells #[.int .u64 0, .int .u64 0, .int .i64 0, .slice none 0 0, .slice none 0 0] 25)) := (HB.refl _).alloc _
          have hbt := HB.trans hHeld hb
          have hZX : Z ≠ X := by have := hZr.lt; omega
          have hZr := hZr.below hb
          rw [← hXe] at hX
          go_simp
          generalize w1x.alloc (.cells #[.int .u64 0, .int .u64 0, .int .i64 0, .slice none 0 0, .slice none 0 0] 25) = w2x at *
          try rw [← hXe]
          clear hXe hb
          go_wp2_with fail
          refine hK.out _ _ hbt (fun _ => ?_)
          clear hK hHeld K
          have hHeld := hbt
          clear hbt
          refine wpAnyH_ready (rs := [6]) (by kernel_rfl) (by simp) ?_
          refine (AllReadyH.cons rfl (fun K hK => ?_) AllReadyH.nil)
          have x0 := cells_at hX 0
          have x1 := cells_at hX 1
          have x2 := cells_at hX 2
          have x3 := cells_at hX 3
          have x4 := cells_at hX 4
          simp only [List.getElem?_toArray, List.getElem?_cons_zero, List.getElem?_cons_succ] at x0 x1 x2 x3 x4
          have g0 := frozen_at hX 0
          have g1 := frozen_at hX 1
          have g2 := frozen_at hX 2
          have g3 := frozen_at hX 3
          have g4 := frozen_at hX 4
          have hbt := below5 hHeld hXl (.int .u64 1) (.int .u64 0) (.int .i64 0) (.slice (some ⟨Z, 0, none⟩) 32 32) (.slice (some ⟨GS, 0, none⟩) R k)
          have hX5 := store5 (v0 := .int .u64 1) (v1 := .int .u64 0) (v2 := .int .i64 0) (v3 := .slice (some ⟨Z, 0, none⟩) 32 32) (v4 := .slice (some ⟨GS, 0, none⟩) R k) hX
          have hZ5 := hZr.store5 hZX (.int .u64 1) (.int .u64 0) (.int .i64 0) (.slice (some ⟨Z, 0, none⟩) 32 32) (.slice (some ⟨GS, 0, none⟩) R k)
          go_simp
          go_wp2_with fail
          refine hK.out _ _ hbt (fun _ => ?_)
          clear hK hHeld K
          have hHeld := hbt
          clear hbt
          refine wpAnyH_done (by kernel_rfl) ?_ _
          go_wp2_with fail
          go_meet
          exact ⟨X, Z, rfl, hX5, hZ5, (hS.below hHeld), (hP.below hHeld), hE.step hHeld, by have h1 := hS.lt; have h2 := lt_of_heap hP; have h3 := hE.2; exact ⟨by omega, by omega, by omega⟩, hZX⟩
        · have hX : AtC (wd.alloc (.cells #[.int .u64 0, .int .u64 0, .int .i64 0, .slice none 0 0, .slice none 0 0] 25)) wd.heap.size (.cells #[.int .u64 0, .int .u64 0, .int .i64 0, .slice none 0 0, .slice none 0 0] 25 (0, 0)) := heap_alloc_new wd _
          obtain ⟨X, hXe⟩ : ∃ X, X = wd.heap.size := ⟨_, rfl⟩
          have hXl : wd.heap.size ≤ X := by rw [hXe]; exact Below.size hHeld
          have hb : HB wd (wd.alloc (.cells #[.int .u64 0, .int .u64 0, .int .i64 0, .slice none 0 0, .slice none 0 0] 25)) := (HB.refl _).alloc _
          have hbt := HB.trans hHeld hb
          rw [← hXe] at hX
          go_simp
          generalize wd.alloc (.cells #[.int .u64 0, .int .u64 0, .int .i64 0, .slice none 0 0, .slice none 0 0] 25) = w4x at *
          try rw [← hXe]
          clear hXe hb
          go_wp2_with fail
          refine hK.out _ _ hbt (fun _ => ?_)
          clear hK hHeld K
          have hHeld := hbt
          clear hbt
          refine wpAnyH_ready (rs := [0]) (by kernel_rfl) (by simp) ?_
          refine (AllReadyH.cons rfl (fun K hK => ?_) AllReadyH.nil)
          have hX0 := hX
          have hrun : (Instr.makeSlice 23 (.int .i64 (32 : Int)) (.int .i64 (32 : Int))).run Tryd.prog w4x = .ok (.slice (some ⟨w4x.heap.size, 0, none⟩) 32 32) (w4x.alloc (.cells (madeCells #[.int .u8 0] 32) TB)) := run_make_bytes 32 (by omega) w4x
          have hZr := Row.zero w4x 32 (by unfold maxLen; omega)
          have hb : HB w4x (w4x.alloc (.cells (madeCells #[.int .u8 0] 32) TB)) := (HB.refl _).alloc _
          have hbt := HB.trans hHeld hb
          have hX := hX.below hb
          have hX0l := lt_of_heap hX0
          go_simp
          obtain ⟨Z, hZe⟩ : ∃ Z, Z = w4x.heap.size := ⟨_, rfl⟩
          have hZl : wd.heap.size ≤ Z := by rw [hZe]; exact Below.size hHeld
          rw [← hZe] at hZr
          (try rw [← hZe])
          have hZX : Z ≠ X := by omega
          clear hX0l hX0
          generalize w4x.alloc (.cells (madeCells #[.int .u8 0] 32) TB) = w5x at *
          clear hrun hb hZe
          go_wp2_with fail
          refine hK.out _ _ hbt (fun _ => ?_)
          clear hK hHeld K
          have hHeld := hbt
          clear hbt
          refine held_take (i := 4) (v := ?_) 50 rfl (by kernel_rfl) (by kernel_rfl) (by kernel_rfl) (fun _ _ _ h => h) rfl (by assumption) (Or.inl ⟨by rfl, ?_⟩) ?_
          rotate_left
          · intro w hSw; go_simp; (try with_reducible rfl)
          simp only [List.set_cons_zero, List.set_cons_succ]
          refine wpAnyH_ready (rs := [6]) (by kernel_rfl) (by simp) ?_
          refine (AllReadyH.cons rfl (fun K hK => ?_) AllReadyH.nil)
          have x0 := cells_at hX 0
          have x1 := cells_at hX 1
          have x2 := cells_at hX 2
          have x3 := cells_at hX 3
          have x4 := cells_at hX 4
          simp only [List.getElem?_toArray, List.getElem?_cons_zero, List.getElem?_cons_succ] at x0 x1 x2 x3 x4
          have g0 := frozen_at hX 0
          have g1 := frozen_at hX 1
          have g2 := frozen_at hX 2
          have g3 := frozen_at hX 3
          have g4 := frozen_at hX 4
          have hbt := below5 hHeld hXl (.int .u64 1) (.int .u64 0) (.int .i64 0) (.slice (some ⟨Z, 0, none⟩) 32 32) (.slice (some ⟨GS, 0, none⟩) R k)
          have hX5 := store5 (v0 := .int .u64 1) (v1 := .int .u64 0) (v2 := .int .i64 0) (v3 := .slice (some ⟨Z, 0, none⟩) 32 32) (v4 := .slice (some ⟨GS, 0, none⟩) R k) hX
          have hZ5 := hZr.store5 hZX (.int .u64 1) (.int .u64 0) (.int .i64 0) (.slice (some ⟨Z, 0, none⟩) 32 32) (.slice (some ⟨GS, 0, none⟩) R k)
          go_simp
          go_wp2_with fail
          refine hK.out _ _ hbt (fun _ => ?_)
          clear hK hHeld K
          have hHeld := hbt
          clear hbt
          refine wpAnyH_done (by kernel_rfl) ?_ _
          go_wp2_with fail
          go_meet
          exact ⟨X, Z, rfl, hX5, hZ5, (hS.below hHeld), (hP.below hHeld), hE.step hHeld, by have h1 := hS.lt; have h2 := lt_of_heap hP; have h3 := hE.2; exact ⟨by omega, by omega, by omega⟩, hZX⟩
      case rest =>
      obtain ⟨M, Z, rfl, hM, hZ, hS, hP, hE, hMM, hZM⟩ := hcut
      have HMM := Lib.hid hMM
      have HZM := Lib.hid hZM
      clear hMM hZM hrow
      obtain ⟨hR, hK, hRb, hp1⟩ := HRb.out
      have hg : 0 ≤ g := by have := HPL.out.bd; omega
      obtain ⟨m, hm⟩ : ∃ m : Mk, m = ⟨1, 0, 0, List.replicate 32 0, List.replicate R x⟩ := ⟨_, rfl⟩
      have hr : m.right g := by rw [hm]; exact ⟨Nat.le_refl 1, by show (1 : Nat) ≤ 1099511627776; omega, Nat.zero_le _, Int.le_refl 0, hg, by simp⟩
      have hml : (m.state.length : Int) ≤ 128 * p - 94 := by rw [hm]; simp; omega
      obtain ⟨LB, hLB⟩ : ∃ LB, LB = (ptBytes p.toNat m).length := ⟨_, rfl⟩
      have hLBp : (LB : Int) = 128 * p := by rw [hLB]; exact ptBytes_length p m (by rw [hm]; simp) hml
      have hST := hS.bs
      rw [List.length_replicate] at hST
      have hTk := hST.take (k := R) hRK2
      rw [List.take_replicate, Nat.min_eq_left hRK2] at hTk
      have hZB := hZ.bs
      rw [List.length_replicate] at hZB
      have HEN := Lib.hid (penc_ok sz p g m (some ⟨Z, 0, none⟩) (some ⟨GS, 0, none⟩) 32 32 R k wc HPL.out (by rw [hm]; exact hZB) (by rw [hm]; exact hTk) hr (by omega))
      have hmv : m.gen = 1 ∧ m.seq = 0 ∧ m.seg = 0 := by rw [hm]; exact ⟨rfl, rfl, rfl⟩
      rw [hmv.1, hmv.2.1, hmv.2.2] at HEN
      have HMV := Lib.hid (And.intro hm (And.intro hr (And.intro hml (And.intro hLB.symm (And.intro hLBp hmv)))))
      clear hm hr hml hLB hLBp hST hTk hZB hR hK hRb hp1 hg hmv
      have p0 := cells_at hP 0
      have p1 := cells_at hP 1
      have p2 := cells_at hP 2
      simp only [List.getElem?_toArray, List.getElem?_cons_zero, List.getElem?_cons_succ] at p0 p1 p2
      have m0 := cells_at hM 0
      have m1 := cells_at hM 1
      have m2 := cells_at hM 2
      have m3 := cells_at hM 3
      have m4 := cells_at hM 4
      simp only [List.getElem?_toArray, List.getElem?_cons_zero, List.getElem?_cons_succ] at m0 m1 m2 m3 m4
      go_wp2_with fail
      refine HEN.out.mono ?_
      rintro e w5 ⟨v, rfl, ho, hb⟩
      obtain ⟨aB, cB, rfl, hBB⟩ := ho.bsn (n := LB) HMV.out.2.2.2.1
      replace hM := hM.below hb
      replace hP := hP.below hb
      replace hS := hS.below hb
      replace hZ := hZ.below hb
      replace hE := hE.step hb
      clear hb ho HEN p0 p1 p2 m0 m1 m2 m3 m4
      have p0 := cells_at hP 0
      have p1 := cells_at hP 1
      have p2 := cells_at hP 2
      simp only [List.getElem?_toArray, List.getElem?_cons_zero, List.getElem?_cons_succ] at p0 p1 p2
      go_wp2_with fail
      refine (pdec_back sz p g m aB LB cB w5 HPL.out HMV.out.2.1 HMV.out.2.2.1 hBB).mono ?_
      rintro e w6 ⟨⟨ah, lh, ch, al, lt, ct, rfl, hOH, hOT⟩, hb⟩
      obtain ⟨hm, hr, hml, hLB, hLBp, hmv⟩ := HMV.out
      rw [hmv.1, hmv.2.1, hmv.2.2]
      have hmT : m.state = List.replicate R x := by rw [hm]
      rw [hmT] at hOT
      obtain ⟨al2, cl2, hv2, hBT⟩ := hOT.bsn (n := R) (by simp)
      injection hv2 with hv2 hv3 hv4
      subst hv2 hv4
      have hv3' := hv3.symm
      subst hv3'
      clear hv3
      have h5M := lt_of_heap hM
      replace hM := hM.below hb
      replace hP := hP.below hb
      replace hS := hS.below hb
      replace hZ := hZ.below hb
      replace hE := hE.step hb
      have hOTs := hOT.setOther (p := ⟨M, 4, none⟩) (fun b hb e => by have h1 := hOT.blk b hb; have e' : b = M := e; omega) (.slice (some ⟨GS, 0, none⟩) k k)
      obtain ⟨al2, cl2, hv2, hBT⟩ := hOTs.bsn (n := R) (by simp)
      injection hv2 with hv2 hv3 hv4
      subst hv2 hv4
      clear hv3 hb hOH hOT hOTs hBB p0 p1 p2 hm hr hml hLB hLBp hmv hmT h5M
      have hMlt := lt_of_heap hM
      have x4 := cells_at hM 4
      have g4 := frozen_at hM 4
      simp only [List.getElem?_toArray, List.getElem?_cons_zero, List.getElem?_cons_succ] at x4
      have hMs : AtC (w6.setCell ⟨M, 4, none⟩ (.slice (some ⟨GS, 0, none⟩) k k)) M (.cells #[.int .u64 1, .int .u64 0, .int .i64 0, .slice (some ⟨Z, 0, none⟩) 32 32, .slice (some ⟨GS, 0, none⟩) k k] 25 (0, 0)) := cells_set (k := 4) (y := .slice (some ⟨GS, 0, none⟩) k k) hM
      have hPs : AtC (w6.setCell ⟨M, 4, none⟩ (.slice (some ⟨GS, 0, none⟩) k k)) P (.cells #[.int .i64 sz, .int .i64 p, .int .i64 g] 31 (0, 0)) := cells_far (Z := M) (k := 4) (y := .slice (some ⟨GS, 0, none⟩) k k) hP (by have := HMM.out.2.1; omega)
      have hSs := hS.setOther (a := ⟨M, 4, none⟩) (show GS ≠ M by have := HMM.out.1; omega) (.slice (some ⟨GS, 0, none⟩) k k)
      have hZs := hZ.setOther (a := ⟨M, 4, none⟩) (show Z ≠ M from HZM.out) (.slice (some ⟨GS, 0, none⟩) k k)
      have hEs := hE.setCell (p := ⟨M, 4, none⟩) HMM.out.2.2 (.slice (some ⟨GS, 0, none⟩) k k)
      have hM2 : AtC ((w6.setCell ⟨M, 4, none⟩ (.slice (some ⟨GS, 0, none⟩) k k)).alloc (.cells #[.int .u64 1, .int .u64 0, .int .i64 0, .slice ah lh ch, .slice al R ct] 25)) (w6.setCell ⟨M, 4, none⟩ (.slice (some ⟨GS, 0, none⟩) k k)).heap.size (.cells #[.int .u64 1, .int .u64 0, .int .i64 0, .slice ah lh ch, .slice al R ct] 25 (0, 0)) := heap_alloc_new _ _
      have hbA := (Below.refl (w6.setCell ⟨M, 4, none⟩ (.slice (some ⟨GS, 0, none⟩) k k)).heap.size (w6.setCell ⟨M, 4, none⟩ (.slice (some ⟨GS, 0, none⟩) k k))).alloc (Nat.le_refl _) (.cells #[.int .u64 1, .int .u64 0, .int .i64 0, .slice ah lh ch, .slice al R ct] 25)
      have hzz : (w6.setCell ⟨M, 4, none⟩ (.slice (some ⟨GS, 0, none⟩) k k)).heap.size = w6.heap.size := by simp [World.setCell]
      rw [hzz] at hM2
      have hPa := hPs.below hbA
      have hMa := hMs.below hbA
      have hSa := (hSs.below hbA).bs
      have hZa := (hZs.below hbA).bs
      have hBTa := hBT.below hbA
      have hEa := hEs.step hbA
      rw [List.length_replicate] at hSa hZa
      clear hM hP hS hZ hE hMs hPs hSs hZs hEs hbA hzz hBT
      go_upto_region 14 with fail
      clear x4 g4 hMlt
      generalize ((w6.setCell ⟨M, 4, none⟩ (.slice (some ⟨GS, 0, none⟩) k k)).alloc (.cells #[.int .u64 1, .int .u64 0, .int .i64 0, .slice ah lh ch, .slice al R ct] 25)) = w7 at *
      generalize w6.heap.size = X2 at *
      have hP := hPa
      have hM := hMa
      have hBT := hBTa
      have hE := hEa
      clear hPa hMa hBTa hEa
      have hSR := hSa.take (k := R) hRK2
      rw [List.take_replicate, Nat.min_eq_left hRK2] at hSR
      have hg : 0 ≤ g := by have := HPL.out.bd; omega
      have HEN := Lib.hid (penc_noroom sz p g ⟨1, 0, 0, List.replicate 32 0, List.replicate k x⟩ (some ⟨Z, 0, none⟩) (some ⟨GS, 0, none⟩) 32 32 k k w7 HPL.out hZa hSa ⟨Nat.le_refl 1, by show (1 : Nat) ≤ 1099511627776; omega, Nat.zero_le _, Int.le_refl 0, hg, by simp⟩ (by have := HRb.out; omega))
      clear hSa hZa hg
      have p0 := cells_at hP 0
      have p1 := cells_at hP 1
      have p2 := cells_at hP 2
      simp only [List.getElem?_toArray, List.getElem?_cons_zero, List.getElem?_cons_succ] at p0 p1 p2
      have m0 := cells_at hM 0
      have m1 := cells_at hM 1
      have m2 := cells_at hM 2
      have m3 := cells_at hM 3
      have m4 := cells_at hM 4
      simp only [List.getElem?_toArray, List.getElem?_cons_zero, List.getElem?_cons_succ] at m0 m1 m2 m3 m4
      go_wp2_with fail
      refine HEN.out.mono ?_
      rintro e w8 ⟨rfl, hb⟩
      replace hP := hP.below hb
      replace hM2 := hM2.below hb
      replace hBT := hBT.below hb
      replace hSR := hSR.below hb
      replace hE := hE.step hb
      have hLp : (LB : Int) = p * 128 := by have := HMV.out.2.2.2.2.1; omega
      have hLq : ((LB : Int) == p * 128) = true := by rw [beq_iff_eq]; exact hLp
      clear hb HEN p0 p1 p2 m0 m1 m2 m3 m4 hM hLp
      go_upto_region 15 with fail
      obtain ⟨wd, hwd⟩ : ∃ wd, wd = w8.drew := ⟨_, rfl⟩
      have hb : Below w8.heap.size w8 wd := by rw [hwd]; exact (Below.refl _ _).drew
      have hP := hP.below hb
      have hM2 := hM2.below hb
      have hBT := hBT.below hb
      have hSR := hSR.below hb
      have hE := hE.step hb
      clear hb
      refine held_start (by kernel_rfl) (fun hHeld => ?_)
      rw [← hwd] at hHeld ⊢
      clear hwd
      refine held_take (i := 0) (v := ?_) 71 rfl (by kernel_rfl) (by kernel_rfl) (by kernel_rfl) (fun _ _ _ h => h) rfl (by assumption) (Or.inl ⟨by rfl, ?_⟩) ?_
      rotate_left
      · intro w hSw; go_simp; (try with_reducible rfl)
      simp only [List.set_cons_zero, List.set_cons_succ]
      refine held_take (i := 1) (v := ?_) 72 rfl (by kernel_rfl) (by kernel_rfl) (by kernel_rfl) (fun _ _ _ h => h) rfl (by assumption) (Or.inl ⟨by rfl, ?_⟩) ?_
      rotate_left
      · intro w hSw; go_simp; (try with_reducible rfl)
      simp only [List.set_cons_zero, List.set_cons_succ]
      refine held_take (i := 2) (v := ?_) 73 rfl (by kernel_rfl) (by kernel_rfl) (by kernel_rfl) (fun _ _ _ h => h) rfl (by assumption) (Or.inl ⟨by rfl, ?_⟩) ?_
      rotate_left
      · intro w hSw; go_simp; (try with_reducible rfl)
      simp only [List.set_cons_zero, List.set_cons_succ]
      refine held_take (i := 3) (v := ?_) 74 rfl (by kernel_rfl) (by kernel_rfl) (by kernel_rfl) (fun _ _ _ h => h) rfl (by assumption) (Or.inl ⟨by rfl, ?_⟩) ?_
      rotate_left
      · intro w hSw; go_simp; (try with_reducible rfl)
      simp only [List.set_cons_zero, List.set_cons_succ]
      refine held_take (i := 4) (v := ?_) 75 rfl (by kernel_rfl) (by kernel_rfl) (by kernel_rfl) (fun _ _ _ h => h) rfl (by assumption) (Or.inl ⟨by rfl, ?_⟩) ?_
      rotate_left
      · intro w hSw; go_simp; (try with_reducible rfl)
      simp only [List.set_cons_zero, List.set_cons_succ]
      refine held_take (i := 5) (v := ?_) 76 rfl (by kernel_rfl) (by kernel_rfl) (by kernel_rfl) (fun _ _ _ h => h) rfl (by assumption) (Or.inl ⟨by rfl, ?_⟩) ?_
      rotate_left
      · intro w hSw; go_simp; (try with_reducible rfl)
      simp only [List.set_cons_zero, List.set_cons_succ]
      refine held_take (i := 6) (v := ?_) 77 rfl (by kernel_rfl) (by kernel_rfl) (by kernel_rfl) (fun _ _ _ h => h) rfl (by assumption) (Or.inl ⟨by rfl, ?_⟩) ?_
      rotate_left
      · intro w hSw; have kk := hP.below hSw; have k0 := cells_at kk 0; have k1 := cells_at kk 1; have k2 := cells_at kk 2; simp only [List.getElem?_toArray, List.getElem?_cons_zero, List.getElem?_cons_succ] at k0 k1 k2; go_simp; (try with_reducible rfl)
      simp only [List.set_cons_zero, List.set_cons_succ]
      refine held_take (i := 7) (v := ?_) 78 rfl (by kernel_rfl) (by kernel_rfl) (by kernel_rfl) (fun _ _ _ h => h) rfl (by assumption) (Or.inl ⟨by rfl, ?_⟩) ?_
      rotate_left
      · intro w hSw; go_simp; (try with_reducible rfl)
      simp only [List.set_cons_zero, List.set_cons_succ]
      refine held_take (i := 8) (v := ?_) 79 rfl (by kernel_rfl) (by kernel_rfl) (by kernel_rfl) (fun _ _ _ h => h) rfl (by assumption) (Or.inl ⟨by rfl, ?_⟩) ?_
      rotate_left
      · intro w hSw; go_simp; (try with_reducible rfl)
      simp only [List.set_cons_zero, List.set_cons_succ]
      refine held_take (i := 9) (v := ?_) 80 rfl (by kernel_rfl) (by kernel_rfl) (by kernel_rfl) (fun _ _ _ h => h) rfl (by assumption) (Or.inl ⟨by rfl, ?_⟩) ?_
      rotate_left
      · intro w hSw; go_simp; (try with_reducible rfl)
      simp only [List.set_cons_zero, List.set_cons_succ]
      refine held_take (i := 10) (v := ?_) 81 rfl (by kernel_rfl) (by kernel_rfl) (by kernel_rfl) (fun _ _ _ h => h) rfl (by assumption) (Or.inl ⟨by rfl, ?_⟩) ?_
      rotate_left
      · intro w hSw; go_simp; (try with_reducible rfl)
      simp only [List.set_cons_zero, List.set_cons_succ]
      refine held_take (i := 11) (v := ?_) 82 rfl (by kernel_rfl) (by kernel_rfl) (by kernel_rfl) (fun _ _ _ h => h) rfl (by assumption) (Or.inl ⟨by rfl, ?_⟩) ?_
      rotate_left
      · intro w hSw; go_simp; (try with_reducible rfl)
      simp only [List.set_cons_zero, List.set_cons_succ]
      refine held_take (i := 12) (v := ?_) 83 rfl (by kernel_rfl) (by kernel_rfl) (by kernel_rfl) (fun _ _ _ h => h) rfl (by assumption) (Or.inl ⟨by rfl, ?_⟩) ?_
      rotate_left
      · intro w hSw; go_simp; (try with_reducible rfl)
      simp only [List.set_cons_zero, List.set_cons_succ]
      refine held_take (i := 13) (v := ?_) 84 rfl (by kernel_rfl) (by kernel_rfl) (by kernel_rfl) (fun _ _ _ h => h) rfl (by assumption) (Or.inl ⟨by rfl, ?_⟩) ?_
      rotate_left
      · intro w hSw; go_simp; (try with_reducible rfl)
      simp only [List.set_cons_zero, List.set_cons_succ]
      refine held_take (i := 14) (v := ?_) 85 rfl (by kernel_rfl) (by kernel_rfl) (by kernel_rfl) (fun _ _ _ h => h) rfl (by assumption) (Or.inl ⟨by rfl, ?_⟩) ?_
      rotate_left
      · intro w hSw; go_simp; (try with_reducible rfl)
      simp only [List.set_cons_zero, List.set_cons_succ]
      refine held_take (i := 15) (v := ?_) 86 rfl (by kernel_rfl) (by kernel_rfl) (by kernel_rfl) (fun _ _ _ h => h) rfl (by assumption) (Or.inl ⟨by rfl, ?_⟩) ?_
      rotate_left
      · intro w hSw; go_simp; (try with_reducible rfl)
      simp only [List.set_cons_zero, List.set_cons_succ]
      refine held_take (i := 16) (v := ?_) 87 rfl (by kernel_rfl) (by kernel_rfl) (by kernel_rfl) (fun _ _ _ h => h) rfl (by assumption) (Or.inl ⟨by rfl, ?_⟩) ?_
      rotate_left
      · intro w hSw; have kk := hM2.below hSw; have k4 := cells_at kk 4; simp only [List.getElem?_toArray, List.getElem?_cons_zero, List.getElem?_cons_succ] at k4; go_simp; (try with_reducible rfl)
      simp only [List.set_cons_zero, List.set_cons_succ]
      refine held_take (i := 17) (v := ?_) 88 rfl (by kernel_rfl) (by kernel_rfl) (by kernel_rfl) (fun _ _ _ h => h) rfl (by assumption) (Or.inl ⟨by rfl, ?_⟩) ?_
      rotate_left
      · intro w hSw; have hs := run_string (hBT.below hSw); go_simp; (try with_reducible rfl)
      simp only [List.set_cons_zero, List.set_cons_succ]
      refine held_take (i := 18) (v := ?_) 89 rfl (by kernel_rfl) (by kernel_rfl) (by kernel_rfl) (fun _ _ _ h => h) rfl (by assumption) (Or.inl ⟨by rfl, ?_⟩) ?_
      rotate_left
      · intro w hSw; go_simp; (try with_reducible rfl)
      simp only [List.set_cons_zero, List.set_cons_succ]
      refine held_take (i := 19) (v := ?_) 90 rfl (by kernel_rfl) (by kernel_rfl) (by kernel_rfl) (fun _ _ _ h => h) rfl (by assumption) (Or.inl ⟨by rfl, ?_⟩) ?_
      rotate_left
      · intro w hSw; go_simp; (try with_reducible rfl)
      simp only [List.set_cons_zero, List.set_cons_succ]
      refine held_take (i := 20) (v := ?_) 91 rfl (by kernel_rfl) (by kernel_rfl) (by kernel_rfl) (fun _ _ _ h => h) rfl (by assumption) (Or.inl ⟨by rfl, ?_⟩) ?_
      rotate_left
      · intro w hSw; go_simp; (try with_reducible rfl)
      simp only [List.set_cons_zero, List.set_cons_succ]
      refine held_take (i := 21) (v := ?_) 92 rfl (by kernel_rfl) (by kernel_rfl) (by kernel_rfl) (fun _ _ _ h => h) rfl (by assumption) (Or.inl ⟨by rfl, ?_⟩) ?_
      rotate_left
      · intro w hSw; have hs := run_string (hSR.below hSw); go_simp; (try with_reducible rfl)
      simp only [List.set_cons_zero, List.set_cons_succ]
      refine held_take (i := 22) (v := ?_) 93 rfl (by kernel_rfl) (by kernel_rfl) (by kernel_rfl) (fun _ _ _ h => h) rfl (by assumption) (Or.inl ⟨by rfl, ?_⟩) ?_
      rotate_left
      · intro w hSw; go_simp; (try with_reducible rfl)
      simp only [List.set_cons_zero, List.set_cons_succ]
      refine held_take (i := 23) (v := ?_) 94 rfl (by kernel_rfl) (by kernel_rfl) (by kernel_rfl) (fun _ _ _ h => h) rfl (by assumption) (Or.inl ⟨by rfl, ?_⟩) ?_
      rotate_left
      · intro w hSw; go_simp; (try with_reducible rfl)
      simp only [List.set_cons_zero, List.set_cons_succ]
      refine held_take (i := 24) (v := ?_) 95 rfl (by kernel_rfl) (by kernel_rfl) (by kernel_rfl) (fun _ _ _ h => h) rfl (by assumption) (Or.inl ⟨by rfl, ?_⟩) ?_
      rotate_left
      · intro w hSw; go_simp; (try with_reducible rfl)
      simp only [List.set_cons_zero, List.set_cons_succ]
      refine held_take (i := 25) (v := ?_) 96 rfl (by kernel_rfl) (by kernel_rfl) (by kernel_rfl) (fun _ _ _ h => h) rfl (by assumption) (Or.inl ⟨by rfl, ?_⟩) ?_
      rotate_left
      · intro w hSw; go_simp; (try with_reducible rfl)
      simp only [List.set_cons_zero, List.set_cons_succ]
      refine held_take (i := 26) (v := ?_) 97 rfl (by kernel_rfl) (by kernel_rfl) (by kernel_rfl) (fun _ _ _ h => h) rfl (by assumption) (Or.inl ⟨by rfl, ?_⟩) ?_
      rotate_left
      · intro w hSw; go_simp; (try with_reducible rfl)
      simp only [List.set_cons_zero, List.set_cons_succ]
      refine held_take (i := 27) (v := ?_) 98 rfl (by kernel_rfl) (by kernel_rfl) (by kernel_rfl) (fun _ _ _ h => h) rfl (by assumption) (Or.inl ⟨by rfl, ?_⟩) ?_
      rotate_left
      · intro w hSw; go_simp; (try with_reducible rfl)
      simp only [List.set_cons_zero, List.set_cons_succ]
      refine held_take (i := 28) (v := ?_) 99 rfl (by kernel_rfl) (by kernel_rfl) (by kernel_rfl) (fun _ _ _ h => h) rfl (by assumption) (Or.inl ⟨by rfl, ?_⟩) ?_
      rotate_left
      · intro w hSw; go_simp; (try with_reducible rfl)
      simp only [List.set_cons_zero, List.set_cons_succ]
      refine held_take (i := 29) (v := ?_) 100 rfl (by kernel_rfl) (by kernel_rfl) (by kernel_rfl) (fun _ _ _ h => h) rfl (by assumption) (Or.inl ⟨by rfl, ?_⟩) ?_
      rotate_left
      · intro w hSw; go_simp; (try with_reducible rfl)
      simp only [List.set_cons_zero, List.set_cons_succ]
      refine held_take (i := 30) (v := ?_) 101 rfl (by kernel_rfl) (by kernel_rfl) (by kernel_rfl) (fun _ _ _ h => h) rfl (by assumption) (Or.inl ⟨by rfl, ?_⟩) ?_
      rotate_left
      · intro w hSw; go_simp; (try with_reducible rfl)
      simp only [List.set_cons_zero, List.set_cons_succ]
      refine held_take (i := 31) (v := ?_) 102 rfl (by kernel_rfl) (by kernel_rfl) (by kernel_rfl) (fun _ _ _ h => h) rfl (by assumption) (Or.inl ⟨by rfl, ?_⟩) ?_
      rotate_left
      · intro w hSw; go_simp; (try with_reducible rfl)
      simp only [List.set_cons_zero, List.set_cons_succ]
      refine held_take (i := 32) (v := ?_) 103 rfl (by kernel_rfl) (by kernel_rfl) (by kernel_rfl) (fun _ _ _ h => h) rfl (by assumption) (Or.inl ⟨by rfl, ?_⟩) ?_
      rotate_left
      · intro w hSw; go_simp; (try with_reducible rfl)
      simp only [List.set_cons_zero, List.set_cons_succ]
      refine held_take (i := 33) (v := ?_) 104 rfl (by kernel_rfl) (by kernel_rfl) (by kernel_rfl) (fun _ _ _ h => h) rfl (by assumption) (Or.inl ⟨by rfl, ?_⟩) ?_
      rotate_left
      · intro w hSw; go_simp; (try with_reducible rfl)
      simp only [List.set_cons_zero, List.set_cons_succ]
      refine wpAnyH_ready (rs := [34]) (by kernel_rfl) (by simp) ?_
      refine (AllReadyH.cons rfl (fun K hK => ?_) AllReadyH.nil)
      go_simp
      refine (pt_known _).mono ?_
      rintro e w1x ⟨rfl, hb⟩
      have hbt := HB.trans hHeld hb
      go_wp2_with fail
      refine hK.out _ _ hbt (fun _ => ?_)
      clear hK hHeld K
      have hHeld := hbt
      clear hb hbt
      refine held_take (i := 35) (v := ?_) 106 rfl (by kernel_rfl) (by kernel_rfl) (by kernel_rfl) (fun _ _ _ h => h) rfl (by assumption) (Or.inl ⟨by rfl, ?_⟩) ?_
      rotate_left
      · intro w hSw; go_simp; (try with_reducible rfl)
      simp only [List.set_cons_zero, List.set_cons_succ]
      refine held_take (i := 36) (v := ?_) 4 rfl (by kernel_rfl) (by kernel_rfl) (by kernel_rfl) (fun _ _ _ h => h) rfl (by assumption) (Or.inl ⟨by rfl, ?_⟩) ?_
      rotate_left
      · intro w hSw; go_simp; (try with_reducible rfl)
      simp only [List.set_cons_zero, List.set_cons_succ]
      refine wpAnyH_done (by kernel_rfl) ?_ _
      go_wp2_with fail
      go_ret
      exact ⟨rfl, (hE.step hHeld).1⟩
theorem PointRooms_walk (v0 v1 : Value) (w : World) (h0 : Arg Tryd.prog w 3 v0) (h1 : Arg Tryd.prog w 5 v1) :
    Calls Tryd.prog 7 #[v0, v1] w fun e w' => e = .returned (.bool true) ∧ Below w.heap.size w w' := by
  obtain ⟨n, rfl, _⟩ := h0.int Tryd.underlying3
  obtain ⟨b, rfl, wb⟩ := h1.int Tryd.underlying5
  rw [← byteOf_toNat wb]
  exact prooms_any n (byteOf b) w
end Go.Proofs.YtdglhonogopciaaDoor
