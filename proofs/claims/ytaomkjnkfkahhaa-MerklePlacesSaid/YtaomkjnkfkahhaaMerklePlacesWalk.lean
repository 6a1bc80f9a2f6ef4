/- The walk of MerklePlaces. -/
import Derived.Test.YtaomkjnkfkahhaaMerkM
import Derived.Test.YtaomkjnkfkahhaaHeld
namespace Go.Proofs.Ytaomkjnkfkahhaa
open Go.RowKit

set_option maxHeartbeats 4000000 in
set_option maxRecDepth 100000 in
theorem MerklePlaces_walk (v0 v1 v2 : Value) (w : World) (h0 : Arg Try.prog w 22 v0) (h1 : Arg Try.prog w 3 v1) (h2 : Arg Try.prog w 3 v2) :
    Calls Try.prog 4 #[v0, v1, v2] w fun e w' => e = .returned (.bool true) ∧ Below w.heap.size w w' := by
  obtain ⟨a0, len0, cap0, ls0, rfl, hL0⟩ := h0.lists
  obtain ⟨i0, rfl, _⟩ := h1.int Try.underlying3
  obtain ⟨j0, rfl, _⟩ := h2.int Try.underlying3
  clear h0 h1 h2
  have hE := Ext.refl w
  obtain ⟨H, hH⟩ : ∃ H, H = w.heap.size := ⟨_, rfl⟩
  rw [← hH] at hE ⊢
  go_enter Try.func4, Try.ntmps4
  go_wp2_with fail
  refine (few_any a0 len0 cap0 ls0 w hL0).mono ?_
  rintro e w1 ⟨v, rfl, hO, hb⟩
  have hE := hE.step hb
  obtain ⟨a, c, rfl, hL⟩ := hO.ll (n := min len0 40) (by rw [fewL_length, hL0.1])
  have hsh : ∀ x ∈ fewL ls0, x.length ≤ 1000 := fun x hx => Nat.le_trans (fewL_short ls0 x hx) (by omega)
  have hn : min len0 40 ≤ 40 := Nat.min_le_right _ _
  have hll := hL.1
  generalize fewL ls0 = L at *
  generalize min len0 40 = n at *
  have HS := Lib.hid hsh
  have HN := Lib.hid hll
  clear hO hb hL0 hsh hll hH
  by_cases hz : n = 0
  · subst hz
    clear hL
    go_wp2_with fail
    refine (merk_known _).mono ?_
    rintro e w8 ⟨rfl, hb⟩
    have hE := hE.step hb
    go_wp2_with fail
    go_ret
    exact ⟨rfl, hE.1⟩
  · have g0 : ((n : Int) == 0) = false := by rw [beq_eq_false_iff_ne]; omega
    obtain ⟨I, hI, _, hI2⟩ := within_nat i0 0 (n - 1) (by omega)
    obtain ⟨J, hJ, _, hJ2⟩ := within_nat j0 0 (n - 1) (by omega)
    have i1 : IntKind.i64.wrap ((n : Int) - 1) = ((n - 1 : Nat) : Int) := by rw [IntWalk.i64_in _ (by omega)]; omega
    have hWI := fun W => within_any i0 (0 : Nat) ((n - 1 : Nat) : Int) W (by omega) (by omega) (by omega)
    have hWJ := fun W => within_any j0 (0 : Nat) ((n - 1 : Nat) : Int) W (by omega) (by omega) (by omega)
    rw [hI] at hWI
    rw [hJ] at hWJ
    have HWI := Lib.hid hWI
    have HWJ := Lib.hid hWJ
    obtain ⟨n1, hn1⟩ : ∃ n1, n1 = n - 1 := ⟨_, rfl⟩
    rw [← hn1] at i1 HWI HWJ hI2 hJ2
    have hIn : I < n := by omega
    have hJn : J < n := by omega
    clear hWI hWJ hI hJ hn1 hI2 hJ2
    go_wp2_with fail
    refine (HWI.out _).mono ?_
    rintro e wq ⟨rfl, rfl⟩
    go_wp2_with fail
    refine (HWJ.out _).mono ?_
    rintro e wq ⟨rfl, rfl⟩
    clear HWI HWJ i1
    go_wp2_with fail
    refine (mpath_yes n a c L I w1 hL HS.out (by omega) hIn).mono ?_
    rintro e w3 ⟨v, rfl, hP, hb⟩
    have hL := hL.below hb
    have hE := hE.step hb
    have hd := dep_le 6 I n (by omega)
    obtain ⟨ap, cp, rfl, hPL⟩ := hP.ll (n := dep I n) (by rw [mpath_length, HN.out])
    have HC1 := Lib.hid (mcheck_path L I n HN.out hIn)
    have HPS := Lib.hid (mpath_shorts L I)
    generalize dep I n = lp at *
    generalize mpath L I = ps at *
    clear hP hb
    go_wp2_with fail
    refine (root_any n a c L w3 hL HS.out (by omega)).mono ?_
    rintro e w4 ⟨v, rfl, hO, hb⟩
    have hL := hL.below hb
    have hE := hE.step hb
    have hPL := hPL.below hb
    obtain ⟨ar, cr, rfl, hRt⟩ := hO.bsn (n := 32) (mroot_length _)
    obtain ⟨b, off, ai, mi, ci, rfl, hCI, hBI⟩ := hL.row hIn
    obtain ⟨b', off', aj, mj, cj, hbb, hCJ, hBJ⟩ := hL.row hJn
    injection hbb with hbb; injection hbb with hb1 hb2
    subst hb1 hb2
    have hmi : mi ≤ 1000 := by rw [← hBI.1]; exact getD_short HS.out I
    have hmj : mj ≤ 1000 := by rw [← hBJ.1]; exact getD_short HS.out J
    have hci := hCI.2
    have hcj := hCJ.2
    have e1 : (0 : Int) ≤ (I : Int) := by omega
    have e2 : (I : Int) < (n : Int) := by omega
    have e3 : (0 : Int) ≤ (J : Int) := by omega
    have e4 : (J : Int) < (n : Int) := by omega
    have hs := strOf_eql
    have s1 := run_string hBI
    have s2 := run_string hBJ
    have s3 := run_string (hBI.below (Below.refl _ _).drew)
    have s4 := run_string (hBJ.below (Below.refl _ _).drew)
    have HXY : Hid (L.getD I [] ≠ L.getD J [] → I ≠ J) := Lib.hid (fun h e => h (by rw [e]))
    generalize mroot L = rt at *
    generalize L.getD I [] = X at *
    generalize L.getD J [] = Y at *
    clear hO hb hL
    by_cases q : X = Y
    · subst q
      go_wp2_with fail
      go_region
      go_wp2_with fail
      refine (check_eq _ _ _ _ _ _ _ _ (I : Int) (n : Int) _ _ _ _ true _ (hRt.below (Below.refl _ _).drew) (hBJ.below (Below.refl _ _).drew) (hPL.below (Below.refl _ _).drew) HPS.out hmj (by omega) (by omega) HC1.out).mono ?_
      rintro e w5 ⟨rfl, hb⟩
      have hE := hE.drew.step hb
      go_wp2_with fail
      refine (merk_known _).mono ?_
      rintro e w8 ⟨rfl, hb⟩
      have hE := hE.step hb
      go_wp2_with fail
      go_ret
      exact ⟨rfl, hE.1⟩
    · have hIJ := HXY.out q
      have hq := decide_eq_false q
      have g1 : ((n : Int) == 1) = false := by rw [beq_eq_false_iff_ne]; omega
      clear q hIJ
      go_wp2_with fail
      go_region
      clear s1 s2 s3 s4 hq hci hcj
      have hBI := hBI.below (Below.refl _ _).drew
      have hBJ := hBJ.below (Below.refl _ _).drew
      have hCI := hCI.below (Below.refl _ _).drew
      have hCJ := hCJ.below (Below.refl _ _).drew
      have hPL := hPL.below (Below.refl _ _).drew
      have hRt := hRt.below (Below.refl _ _).drew
      have hE := hE.drew
      generalize w4.drew = w4 at *
      go_upto_region 11 with fail
      go_cut [73] (fun s wx => s = .bool (decide (sha (0 :: X) = sha (0 :: Y))) ∧ Bs wx ai mi ci X ∧ Bs wx aj mj cj Y ∧ CellIs wx b (off + I) (.slice ai mi ci) ∧ CellIs wx b (off + J) (.slice aj mj cj) ∧ LL wx ap lp cp ps ∧ Bs wx ar 32 cr rt ∧ Ext H w wx)
      case first =>
        obtain ⟨wd, hwd⟩ : ∃ wd, wd = w4.drew := ⟨_, rfl⟩
        have hb : Below w4.heap.size w4 wd := by rw [hwd]; exact (Below.refl _ _).drew
        have hBI := hBI.below hb
        have hBJ := hBJ.below hb
        have hCI := hCI.below hb
        have hCJ := hCJ.below hb
        have hPL := hPL.below hb
        have hRt := hRt.below hb
        have hE := hE.step hb
        clear hb
        refine held_start (by kernel_rfl) (fun hHeld => ?_)
        rw [← hwd] at hHeld ⊢
        clear hwd
        refine held_take (i := 0) (v := ?_) 61 rfl (by kernel_rfl) (by kernel_rfl) (by kernel_rfl) (fun _ _ _ h => h) rfl (by assumption) (Or.inl ⟨by rfl, ?_⟩) ?_
        rotate_left
        · intro w hSw; go_simp; (try with_reducible rfl)
        simp only [List.set_cons_zero, List.set_cons_succ]
        refine held_take (i := 1) (v := ?_) 62 rfl (by kernel_rfl) (by kernel_rfl) (by kernel_rfl) (fun _ _ _ h => h) rfl (by assumption) (Or.inl ⟨by rfl, ?_⟩) ?_
        rotate_left
        · intro w hSw; go_simp; (try with_reducible rfl)
        simp only [List.set_cons_zero, List.set_cons_succ]
        refine held_take (i := 2) (v := ?_) 63 rfl (by kernel_rfl) (by kernel_rfl) (by kernel_rfl) (fun _ _ _ h => h) rfl (by assumption) (Or.inl ⟨by rfl, ?_⟩) ?_
        rotate_left
        · intro w hSw; go_simp; (try with_reducible rfl)
        simp only [List.set_cons_zero, List.set_cons_succ]
        refine held_take (i := 3) (v := ?_) 64 rfl (by kernel_rfl) (by kernel_rfl) (by kernel_rfl) (fun _ _ _ h => h) rfl (by assumption) (Or.inl ⟨by rfl, ?_⟩) ?_
        rotate_left
        · intro w hSw; have hc := (hCI.below hSw).2; go_simp; (try with_reducible rfl)
        simp only [List.set_cons_zero, List.set_cons_succ]
        refine held_take (i := 6) (v := ?_) 67 rfl (by kernel_rfl) (by kernel_rfl) (by kernel_rfl) (fun _ _ _ h => h) rfl (by assumption) (Or.inl ⟨by rfl, ?_⟩) ?_
        rotate_left
        · intro w hSw; go_simp; (try with_reducible rfl)
        simp only [List.set_cons_zero, List.set_cons_succ]
        refine held_take (i := 7) (v := ?_) 68 rfl (by kernel_rfl) (by kernel_rfl) (by kernel_rfl) (fun _ _ _ h => h) rfl (by assumption) (Or.inl ⟨by rfl, ?_⟩) ?_
        rotate_left
        · intro w hSw; go_simp; (try with_reducible rfl)
        simp only [List.set_cons_zero, List.set_cons_succ]
        refine held_take (i := 8) (v := ?_) 69 rfl (by kernel_rfl) (by kernel_rfl) (by kernel_rfl) (fun _ _ _ h => h) rfl (by assumption) (Or.inl ⟨by rfl, ?_⟩) ?_
        rotate_left
        · intro w hSw; go_simp; (try with_reducible rfl)
        simp only [List.set_cons_zero, List.set_cons_succ]
        refine held_take (i := 9) (v := ?_) 70 rfl (by kernel_rfl) (by kernel_rfl) (by kernel_rfl) (fun _ _ _ h => h) rfl (by assumption) (Or.inl ⟨by rfl, ?_⟩) ?_
        rotate_left
        · intro w hSw; have hc := (hCJ.below hSw).2; go_simp; (try with_reducible rfl)
        simp only [List.set_cons_zero, List.set_cons_succ]
        refine wpAnyH_ready (rs := [4]) (by kernel_rfl) (by simp) ?_
        refine (AllReadyH.cons rfl (fun K hK => ?_) AllReadyH.nil)
        go_simp
        refine (rleaf_any _ _ _ _ _ (hBI.below hHeld) (by omega)).mono ?_
        rintro e w1x ⟨v4, rfl, ho4, hb⟩
        have hbt := HB.trans hHeld hb
        have hBI := hBI.below hbt
        have hBJ := hBJ.below hbt
        have hCI := hCI.below hbt
        have hCJ := hCJ.below hbt
        have hPL := hPL.below hbt
        have hRt := hRt.below hbt
        have hE := hE.step hbt
        obtain ⟨a4, c4, rfl, hB4⟩ := ho4.bsn (n := 32) (sha_length _)
        clear ho4
        go_wp2_with fail
        refine hK.out _ _ hbt (fun _ => held_next hbt (fun hHeld2 => ?_))
        clear hK hHeld hb hbt K
        have hHeld := hHeld2
        clear hHeld2
        refine held_take (i := 5) (v := ?_) 66 rfl (by kernel_rfl) (by kernel_rfl) (by kernel_rfl) (fun _ _ _ h => h) rfl (by assumption) (Or.inl ⟨by rfl, ?_⟩) ?_
        rotate_left
        · intro w hSw; have hs := run_string (hB4.below hSw); go_simp; (try with_reducible rfl)
        simp only [List.set_cons_zero, List.set_cons_succ]
        refine wpAnyH_ready (rs := [10]) (by kernel_rfl) (by simp) ?_
        refine (AllReadyH.cons rfl (fun K hK => ?_) AllReadyH.nil)
        go_simp
        refine (rleaf_any _ _ _ _ _ (hBJ.below hHeld) (by omega)).mono ?_
        rintro e w2x ⟨v10, rfl, ho10, hb⟩
        have hbt := HB.trans hHeld hb
        have hBI := hBI.below hbt
        have hBJ := hBJ.below hbt
        have hCI := hCI.below hbt
        have hCJ := hCJ.below hbt
        have hPL := hPL.below hbt
        have hRt := hRt.below hbt
        have hE := hE.step hbt
        have hB4 := hB4.below hbt
        obtain ⟨a10, c10, rfl, hB10⟩ := ho10.bsn (n := 32) (sha_length _)
        clear ho10
        go_wp2_with fail
        refine hK.out _ _ hbt (fun _ => held_next hbt (fun hHeld2 => ?_))
        clear hK hHeld hb hbt K
        have hHeld := hHeld2
        clear hHeld2
        refine held_take (i := 11) (v := ?_) 72 rfl (by kernel_rfl) (by kernel_rfl) (by kernel_rfl) (fun _ _ _ h => h) rfl (by assumption) (Or.inl ⟨by rfl, ?_⟩) ?_
        rotate_left
        · intro w hSw; have hs := run_string (hB10.below hSw); go_simp; (try with_reducible rfl)
        simp only [List.set_cons_zero, List.set_cons_succ]
        refine held_take (i := 12) (v := ?_) 73 rfl (by kernel_rfl) (by kernel_rfl) (by kernel_rfl) (fun _ _ _ h => h) rfl (by assumption) (Or.inl ⟨by rfl, ?_⟩) ?_
        rotate_left
        · intro w hSw; go_simp; (try with_reducible rfl)
        simp only [List.set_cons_zero, List.set_cons_succ]
        refine wpAnyH_done (by kernel_rfl) ?_ _
        go_wp2_with fail
        go_meet
        exact ⟨rfl, hBI.below hHeld, hBJ.below hHeld, hCI.below hHeld, hCJ.below hHeld, hPL.below hHeld, hRt.below hHeld, hE.step hHeld⟩
      case rest =>
        obtain ⟨rfl, hBI, hBJ, hCI, hCJ, hPL, hRt, hE⟩ := hcut
        generalize decide (sha (0 :: X) = sha (0 :: Y)) = bb at *
        cases bb with
        | true =>
          go_wp2_with fail
          refine (merk_known _).mono ?_
          rintro e w8 ⟨rfl, hb⟩
          have hE := hE.step hb
          go_wp2_with fail
          go_ret
          exact ⟨rfl, hE.1⟩
        | false =>
          obtain ⟨r1, hr1⟩ : ∃ r1, mcheck rt Y I n ps = r1 := ⟨_, rfl⟩
          obtain ⟨r2, hr2⟩ : ∃ r2, mcheck rt X J n ps = r2 := ⟨_, rfl⟩
          have HV1 := Lib.hid hr1
          have HV2 := Lib.hid hr2
          clear hr1 hr2
          go_upto_region 13 with fail
          obtain ⟨wd, hwd⟩ : ∃ wd, wd = wc.drew := ⟨_, rfl⟩
          have hb : Below wc.heap.size wc wd := by rw [hwd]; exact (Below.refl _ _).drew
          have hBI := hBI.below hb
          have hBJ := hBJ.below hb
          have hCI := hCI.below hb
          have hCJ := hCJ.below hb
          have hPL := hPL.below hb
          have hRt := hRt.below hb
          have hE := hE.step hb
          clear hb
          refine held_start (by kernel_rfl) (fun hHeld => ?_)
          rw [← hwd] at hHeld ⊢
          clear hwd
          refine held_take (i := 0) (v := ?_) 75 rfl (by kernel_rfl) (by kernel_rfl) (by kernel_rfl) (fun _ _ _ h => h) rfl (by assumption) (Or.inl ⟨by rfl, ?_⟩) ?_
          rotate_left
          · intro w hSw; go_simp; (try with_reducible rfl)
          simp only [List.set_cons_zero, List.set_cons_succ]
          refine held_take (i := 1) (v := ?_) 76 rfl (by kernel_rfl) (by kernel_rfl) (by kernel_rfl) (fun _ _ _ h => h) rfl (by assumption) (Or.inl ⟨by rfl, ?_⟩) ?_
          rotate_left
          · intro w hSw; go_simp; (try with_reducible rfl)
          simp only [List.set_cons_zero, List.set_cons_succ]
          refine held_take (i := 2) (v := ?_) 77 rfl (by kernel_rfl) (by kernel_rfl) (by kernel_rfl) (fun _ _ _ h => h) rfl (by assumption) (Or.inl ⟨by rfl, ?_⟩) ?_
          rotate_left
          · intro w hSw; go_simp; (try with_reducible rfl)
          simp only [List.set_cons_zero, List.set_cons_succ]
          refine held_take (i := 3) (v := ?_) 78 rfl (by kernel_rfl) (by kernel_rfl) (by kernel_rfl) (fun _ _ _ h => h) rfl (by assumption) (Or.inl ⟨by rfl, ?_⟩) ?_
          rotate_left
          · intro w hSw; go_simp; (try with_reducible rfl)
          simp only [List.set_cons_zero, List.set_cons_succ]
          refine held_take (i := 4) (v := undef) 79 rfl (by kernel_rfl) (by kernel_rfl) (by kernel_rfl) (fun _ _ _ h => h) rfl (by assumption) (Or.inr ⟨by rfl, rfl⟩) ?_
          simp only [List.set_cons_zero, List.set_cons_succ]
          refine held_take (i := 5) (v := undef) 80 rfl (by kernel_rfl) (by kernel_rfl) (by kernel_rfl) (fun _ _ _ h => h) rfl (by assumption) (Or.inr ⟨by rfl, rfl⟩) ?_
          simp only [List.set_cons_zero, List.set_cons_succ]
          refine held_take (i := 6) (v := undef) 81 rfl (by kernel_rfl) (by kernel_rfl) (by kernel_rfl) (fun _ _ _ h => h) rfl (by assumption) (Or.inr ⟨by rfl, rfl⟩) ?_
          simp only [List.set_cons_zero, List.set_cons_succ]
          refine held_take (i := 7) (v := undef) 82 rfl (by kernel_rfl) (by kernel_rfl) (by kernel_rfl) (fun _ _ _ h => h) rfl (by assumption) (Or.inr ⟨by rfl, rfl⟩) ?_
          simp only [List.set_cons_zero, List.set_cons_succ]
          refine held_take (i := 8) (v := undef) 83 rfl (by kernel_rfl) (by kernel_rfl) (by kernel_rfl) (fun _ _ _ h => h) rfl (by assumption) (Or.inr ⟨by rfl, rfl⟩) ?_
          simp only [List.set_cons_zero, List.set_cons_succ]
          refine held_take (i := 9) (v := undef) 84 rfl (by kernel_rfl) (by kernel_rfl) (by kernel_rfl) (fun _ _ _ h => h) rfl (by assumption) (Or.inr ⟨by rfl, rfl⟩) ?_
          simp only [List.set_cons_zero, List.set_cons_succ]
          refine held_take (i := 10) (v := undef) 85 rfl (by kernel_rfl) (by kernel_rfl) (by kernel_rfl) (fun _ _ _ h => h) rfl (by assumption) (Or.inr ⟨by rfl, rfl⟩) ?_
          simp only [List.set_cons_zero, List.set_cons_succ]
          refine held_take (i := 11) (v := undef) 86 rfl (by kernel_rfl) (by kernel_rfl) (by kernel_rfl) (fun _ _ _ h => h) rfl (by assumption) (Or.inr ⟨by rfl, rfl⟩) ?_
          simp only [List.set_cons_zero, List.set_cons_succ]
          refine held_take (i := 12) (v := ?_) 87 rfl (by kernel_rfl) (by kernel_rfl) (by kernel_rfl) (fun _ _ _ h => h) rfl (by assumption) (Or.inl ⟨by rfl, ?_⟩) ?_
          rotate_left
          · intro w hSw; go_simp; (try with_reducible rfl)
          simp only [List.set_cons_zero, List.set_cons_succ]
          refine held_take (i := 13) (v := ?_) 88 rfl (by kernel_rfl) (by kernel_rfl) (by kernel_rfl) (fun _ _ _ h => h) rfl (by assumption) (Or.inl ⟨by rfl, ?_⟩) ?_
          rotate_left
          · intro w hSw; go_simp; (try with_reducible rfl)
          simp only [List.set_cons_zero, List.set_cons_succ]
          refine held_take (i := 14) (v := ?_) 89 rfl (by kernel_rfl) (by kernel_rfl) (by kernel_rfl) (fun _ _ _ h => h) rfl (by assumption) (Or.inl ⟨by rfl, ?_⟩) ?_
          rotate_left
          · intro w hSw; go_simp; (try with_reducible rfl)
          simp only [List.set_cons_zero, List.set_cons_succ]
          refine held_take (i := 15) (v := ?_) 90 rfl (by kernel_rfl) (by kernel_rfl) (by kernel_rfl) (fun _ _ _ h => h) rfl (by assumption) (Or.inl ⟨by rfl, ?_⟩) ?_
          rotate_left
          · intro w hSw; go_simp; (try with_reducible rfl)
          simp only [List.set_cons_zero, List.set_cons_succ]
          refine held_take (i := 16) (v := ?_) 91 rfl (by kernel_rfl) (by kernel_rfl) (by kernel_rfl) (fun _ _ _ h => h) rfl (by assumption) (Or.inl ⟨by rfl, ?_⟩) ?_
          rotate_left
          · intro w hSw; go_simp; (try with_reducible rfl)
          simp only [List.set_cons_zero, List.set_cons_succ]
          refine held_take (i := 17) (v := ?_) 92 rfl (by kernel_rfl) (by kernel_rfl) (by kernel_rfl) (fun _ _ _ h => h) rfl (by assumption) (Or.inl ⟨by rfl, ?_⟩) ?_
          rotate_left
          · intro w hSw; go_simp; (try with_reducible rfl)
          simp only [List.set_cons_zero, List.set_cons_succ]
          refine held_take (i := 18) (v := ?_) 93 rfl (by kernel_rfl) (by kernel_rfl) (by kernel_rfl) (fun _ _ _ h => h) rfl (by assumption) (Or.inl ⟨by rfl, ?_⟩) ?_
          rotate_left
          · intro w hSw; go_simp; (try with_reducible rfl)
          simp only [List.set_cons_zero, List.set_cons_succ]
          refine held_take (i := 19) (v := ?_) 94 rfl (by kernel_rfl) (by kernel_rfl) (by kernel_rfl) (fun _ _ _ h => h) rfl (by assumption) (Or.inl ⟨by rfl, ?_⟩) ?_
          rotate_left
          · intro w hSw; have hc := (hCJ.below hSw).2; go_simp; (try with_reducible rfl)
          simp only [List.set_cons_zero, List.set_cons_succ]
          refine held_take (i := 20) (v := ?_) 95 rfl (by kernel_rfl) (by kernel_rfl) (by kernel_rfl) (fun _ _ _ h => h) rfl (by assumption) (Or.inl ⟨by rfl, ?_⟩) ?_
          rotate_left
          · intro w hSw; go_simp; (try with_reducible rfl)
          simp only [List.set_cons_zero, List.set_cons_succ]
          refine held_take (i := 21) (v := ?_) 96 rfl (by kernel_rfl) (by kernel_rfl) (by kernel_rfl) (fun _ _ _ h => h) rfl (by assumption) (Or.inl ⟨by rfl, ?_⟩) ?_
          rotate_left
          · intro w hSw; go_simp; (try with_reducible rfl)
          simp only [List.set_cons_zero, List.set_cons_succ]
          refine held_take (i := 22) (v := ?_) 97 rfl (by kernel_rfl) (by kernel_rfl) (by kernel_rfl) (fun _ _ _ h => h) rfl (by assumption) (Or.inl ⟨by rfl, ?_⟩) ?_
          rotate_left
          · intro w hSw; go_simp; (try with_reducible rfl)
          simp only [List.set_cons_zero, List.set_cons_succ]
          refine held_take (i := 23) (v := ?_) 98 rfl (by kernel_rfl) (by kernel_rfl) (by kernel_rfl) (fun _ _ _ h => h) rfl (by assumption) (Or.inl ⟨by rfl, ?_⟩) ?_
          rotate_left
          · intro w hSw; go_simp; (try with_reducible rfl)
          simp only [List.set_cons_zero, List.set_cons_succ]
          refine held_take (i := 25) (v := ?_) 100 rfl (by kernel_rfl) (by kernel_rfl) (by kernel_rfl) (fun _ _ _ h => h) rfl (by assumption) (Or.inl ⟨by rfl, ?_⟩) ?_
          rotate_left
          · intro w hSw; go_simp; (try with_reducible rfl)
          simp only [List.set_cons_zero, List.set_cons_succ]
          refine held_take (i := 26) (v := ?_) 101 rfl (by kernel_rfl) (by kernel_rfl) (by kernel_rfl) (fun _ _ _ h => h) rfl (by assumption) (Or.inl ⟨by rfl, ?_⟩) ?_
          rotate_left
          · intro w hSw; go_simp; (try with_reducible rfl)
          simp only [List.set_cons_zero, List.set_cons_succ]
          refine held_take (i := 27) (v := ?_) 102 rfl (by kernel_rfl) (by kernel_rfl) (by kernel_rfl) (fun _ _ _ h => h) rfl (by assumption) (Or.inl ⟨by rfl, ?_⟩) ?_
          rotate_left
          · intro w hSw; go_simp; (try with_reducible rfl)
          simp only [List.set_cons_zero, List.set_cons_succ]
          refine held_take (i := 28) (v := ?_) 103 rfl (by kernel_rfl) (by kernel_rfl) (by kernel_rfl) (fun _ _ _ h => h) rfl (by assumption) (Or.inl ⟨by rfl, ?_⟩) ?_
          rotate_left
          · intro w hSw; go_simp; (try with_reducible rfl)
          simp only [List.set_cons_zero, List.set_cons_succ]
          refine held_take (i := 29) (v := ?_) 104 rfl (by kernel_rfl) (by kernel_rfl) (by kernel_rfl) (fun _ _ _ h => h) rfl (by assumption) (Or.inl ⟨by rfl, ?_⟩) ?_
          rotate_left
          · intro w hSw; have hc := (hCJ.below hSw).2; go_simp; (try with_reducible rfl)
          simp only [List.set_cons_zero, List.set_cons_succ]
          refine held_take (i := 30) (v := ?_) 105 rfl (by kernel_rfl) (by kernel_rfl) (by kernel_rfl) (fun _ _ _ h => h) rfl (by assumption) (Or.inl ⟨by rfl, ?_⟩) ?_
          rotate_left
          · intro w hSw; go_simp; (try with_reducible rfl)
          simp only [List.set_cons_zero, List.set_cons_succ]
          refine held_take (i := 31) (v := ?_) 106 rfl (by kernel_rfl) (by kernel_rfl) (by kernel_rfl) (fun _ _ _ h => h) rfl (by assumption) (Or.inl ⟨by rfl, ?_⟩) ?_
          rotate_left
          · intro w hSw; go_simp; (try with_reducible rfl)
          simp only [List.set_cons_zero, List.set_cons_succ]
          refine held_take (i := 32) (v := ?_) 107 rfl (by kernel_rfl) (by kernel_rfl) (by kernel_rfl) (fun _ _ _ h => h) rfl (by assumption) (Or.inl ⟨by rfl, ?_⟩) ?_
          rotate_left
          · intro w hSw; go_simp; (try with_reducible rfl)
          simp only [List.set_cons_zero, List.set_cons_succ]
          refine held_take (i := 33) (v := ?_) 108 rfl (by kernel_rfl) (by kernel_rfl) (by kernel_rfl) (fun _ _ _ h => h) rfl (by assumption) (Or.inl ⟨by rfl, ?_⟩) ?_
          rotate_left
          · intro w hSw; go_simp; (try with_reducible rfl)
          simp only [List.set_cons_zero, List.set_cons_succ]
          refine wpAnyH_ready (rs := [24]) (by kernel_rfl) (by simp) ?_
          refine (AllReadyH.cons rfl (fun K hK => ?_) AllReadyH.nil)
          go_simp
          refine (check_eq _ _ _ _ _ _ _ _ (I : Int) (n : Int) _ _ _ _ r1 _ (hRt.below hHeld) (hBJ.below hHeld) (hPL.below hHeld) HPS.out hmj (by omega) (by omega) HV1.out).mono ?_
          rintro e w1x ⟨rfl, hb⟩
          have hbt := HB.trans hHeld hb
          have hBI := hBI.below hbt
          have hBJ := hBJ.below hbt
          have hCI := hCI.below hbt
          have hCJ := hCJ.below hbt
          have hPL := hPL.below hbt
          have hRt := hRt.below hbt
          have hE := hE.step hbt
          go_wp2_with fail
          refine hK.out _ _ hbt (fun _ => held_next hbt (fun hHeld2 => ?_))
          clear hK hHeld hb hbt K
          have hHeld := hHeld2
          clear hHeld2
          refine wpAnyH_ready (rs := [34]) (by kernel_rfl) (by simp) ?_
          refine (AllReadyH.cons rfl (fun K hK => ?_) AllReadyH.nil)
          go_simp
          refine (rcheck_eq _ _ _ _ _ _ _ _ (I : Int) (n : Int) _ _ _ _ r1 _ (hRt.below hHeld) (hBJ.below hHeld) (hPL.below hHeld) HPS.out hmj (by omega) (by omega) HV1.out).mono ?_
          rintro e w2x ⟨rfl, hb⟩
          have hbt := HB.trans hHeld hb
          have hBI := hBI.below hbt
          have hBJ := hBJ.below hbt
          have hCI := hCI.below hbt
          have hCJ := hCJ.below hbt
          have hPL := hPL.below hbt
          have hRt := hRt.below hbt
          have hE := hE.step hbt
          go_wp2_with fail
          refine hK.out _ _ hbt (fun _ => held_next hbt (fun hHeld2 => ?_))
          clear hK hHeld hb hbt K
          have hHeld := hHeld2
          clear hHeld2
          refine held_take (i := 35) (v := ?_) 110 rfl (by kernel_rfl) (by kernel_rfl) (by kernel_rfl) (fun _ _ _ h => h) rfl (by assumption) (Or.inl ⟨by rfl, ?_⟩) ?_
          rotate_left
          · intro w hSw; go_simp; (try with_reducible rfl)
          simp only [List.set_cons_zero, List.set_cons_succ]
          refine held_take (i := 36) (v := ?_) 111 rfl (by kernel_rfl) (by kernel_rfl) (by kernel_rfl) (fun _ _ _ h => h) rfl (by assumption) (Or.inl ⟨by rfl, ?_⟩) ?_
          rotate_left
          · intro w hSw; go_simp; (try with_reducible rfl)
          simp only [List.set_cons_zero, List.set_cons_succ]
          refine held_take (i := 37) (v := ?_) 112 rfl (by kernel_rfl) (by kernel_rfl) (by kernel_rfl) (fun _ _ _ h => h) rfl (by assumption) (Or.inl ⟨by rfl, ?_⟩) ?_
          rotate_left
          · intro w hSw; go_simp; (try with_reducible rfl)
          simp only [List.set_cons_zero, List.set_cons_succ]
          refine held_take (i := 38) (v := ?_) 113 rfl (by kernel_rfl) (by kernel_rfl) (by kernel_rfl) (fun _ _ _ h => h) rfl (by assumption) (Or.inl ⟨by rfl, ?_⟩) ?_
          rotate_left
          · intro w hSw; go_simp; (try with_reducible rfl)
          simp only [List.set_cons_zero, List.set_cons_succ]
          refine held_take (i := 39) (v := ?_) 114 rfl (by kernel_rfl) (by kernel_rfl) (by kernel_rfl) (fun _ _ _ h => h) rfl (by assumption) (Or.inl ⟨by rfl, ?_⟩) ?_
          rotate_left
          · intro w hSw; go_simp; (try with_reducible rfl)
          simp only [List.set_cons_zero, List.set_cons_succ]
          refine held_take (i := 40) (v := ?_) 115 rfl (by kernel_rfl) (by kernel_rfl) (by kernel_rfl) (fun _ _ _ h => h) rfl (by assumption) (Or.inl ⟨by rfl, ?_⟩) ?_
          rotate_left
          · intro w hSw; go_simp; (try with_reducible rfl)
          simp only [List.set_cons_zero, List.set_cons_succ]
          refine held_take (i := 41) (v := ?_) 116 rfl (by kernel_rfl) (by kernel_rfl) (by kernel_rfl) (fun _ _ _ h => h) rfl (by assumption) (Or.inl ⟨by rfl, ?_⟩) ?_
          rotate_left
          · intro w hSw; go_simp; (try with_reducible rfl)
          simp only [List.set_cons_zero, List.set_cons_succ]
          refine held_take (i := 42) (v := ?_) 117 rfl (by kernel_rfl) (by kernel_rfl) (by kernel_rfl) (fun _ _ _ h => h) rfl (by assumption) (Or.inl ⟨by rfl, ?_⟩) ?_
          rotate_left
          · intro w hSw; have hc := (hCI.below hSw).2; go_simp; (try with_reducible rfl)
          simp only [List.set_cons_zero, List.set_cons_succ]
          refine held_take (i := 43) (v := ?_) 118 rfl (by kernel_rfl) (by kernel_rfl) (by kernel_rfl) (fun _ _ _ h => h) rfl (by assumption) (Or.inl ⟨by rfl, ?_⟩) ?_
          rotate_left
          · intro w hSw; go_simp; (try with_reducible rfl)
          simp only [List.set_cons_zero, List.set_cons_succ]
          refine held_take (i := 44) (v := ?_) 119 rfl (by kernel_rfl) (by kernel_rfl) (by kernel_rfl) (fun _ _ _ h => h) rfl (by assumption) (Or.inl ⟨by rfl, ?_⟩) ?_
          rotate_left
          · intro w hSw; go_simp; (try with_reducible rfl)
          simp only [List.set_cons_zero, List.set_cons_succ]
          refine held_take (i := 45) (v := ?_) 120 rfl (by kernel_rfl) (by kernel_rfl) (by kernel_rfl) (fun _ _ _ h => h) rfl (by assumption) (Or.inl ⟨by rfl, ?_⟩) ?_
          rotate_left
          · intro w hSw; go_simp; (try with_reducible rfl)
          simp only [List.set_cons_zero, List.set_cons_succ]
          refine held_take (i := 46) (v := ?_) 121 rfl (by kernel_rfl) (by kernel_rfl) (by kernel_rfl) (fun _ _ _ h => h) rfl (by assumption) (Or.inl ⟨by rfl, ?_⟩) ?_
          rotate_left
          · intro w hSw; go_simp; (try with_reducible rfl)
          simp only [List.set_cons_zero, List.set_cons_succ]
          refine held_take (i := 48) (v := ?_) 123 rfl (by kernel_rfl) (by kernel_rfl) (by kernel_rfl) (fun _ _ _ h => h) rfl (by assumption) (Or.inl ⟨by rfl, ?_⟩) ?_
          rotate_left
          · intro w hSw; go_simp; (try with_reducible rfl)
          simp only [List.set_cons_zero, List.set_cons_succ]
          refine held_take (i := 49) (v := ?_) 124 rfl (by kernel_rfl) (by kernel_rfl) (by kernel_rfl) (fun _ _ _ h => h) rfl (by assumption) (Or.inl ⟨by rfl, ?_⟩) ?_
          rotate_left
          · intro w hSw; go_simp; (try with_reducible rfl)
          simp only [List.set_cons_zero, List.set_cons_succ]
          refine held_take (i := 50) (v := ?_) 125 rfl (by kernel_rfl) (by kernel_rfl) (by kernel_rfl) (fun _ _ _ h => h) rfl (by assumption) (Or.inl ⟨by rfl, ?_⟩) ?_
          rotate_left
          · intro w hSw; go_simp; (try with_reducible rfl)
          simp only [List.set_cons_zero, List.set_cons_succ]
          refine held_take (i := 51) (v := ?_) 126 rfl (by kernel_rfl) (by kernel_rfl) (by kernel_rfl) (fun _ _ _ h => h) rfl (by assumption) (Or.inl ⟨by rfl, ?_⟩) ?_
          rotate_left
          · intro w hSw; go_simp; (try with_reducible rfl)
          simp only [List.set_cons_zero, List.set_cons_succ]
          refine held_take (i := 52) (v := ?_) 127 rfl (by kernel_rfl) (by kernel_rfl) (by kernel_rfl) (fun _ _ _ h => h) rfl (by assumption) (Or.inl ⟨by rfl, ?_⟩) ?_
          rotate_left
          · intro w hSw; have hc := (hCI.below hSw).2; go_simp; (try with_reducible rfl)
          simp only [List.set_cons_zero, List.set_cons_succ]
          refine held_take (i := 53) (v := ?_) 128 rfl (by kernel_rfl) (by kernel_rfl) (by kernel_rfl) (fun _ _ _ h => h) rfl (by assumption) (Or.inl ⟨by rfl, ?_⟩) ?_
          rotate_left
          · intro w hSw; go_simp; (try with_reducible rfl)
          simp only [List.set_cons_zero, List.set_cons_succ]
          refine held_take (i := 54) (v := ?_) 129 rfl (by kernel_rfl) (by kernel_rfl) (by kernel_rfl) (fun _ _ _ h => h) rfl (by assumption) (Or.inl ⟨by rfl, ?_⟩) ?_
          rotate_left
          · intro w hSw; go_simp; (try with_reducible rfl)
          simp only [List.set_cons_zero, List.set_cons_succ]
          refine held_take (i := 55) (v := ?_) 130 rfl (by kernel_rfl) (by kernel_rfl) (by kernel_rfl) (fun _ _ _ h => h) rfl (by assumption) (Or.inl ⟨by rfl, ?_⟩) ?_
          rotate_left
          · intro w hSw; go_simp; (try with_reducible rfl)
          simp only [List.set_cons_zero, List.set_cons_succ]
          refine held_take (i := 56) (v := ?_) 131 rfl (by kernel_rfl) (by kernel_rfl) (by kernel_rfl) (fun _ _ _ h => h) rfl (by assumption) (Or.inl ⟨by rfl, ?_⟩) ?_
          rotate_left
          · intro w hSw; go_simp; (try with_reducible rfl)
          simp only [List.set_cons_zero, List.set_cons_succ]
          refine wpAnyH_ready (rs := [47]) (by kernel_rfl) (by simp) ?_
          refine (AllReadyH.cons rfl (fun K hK => ?_) AllReadyH.nil)
          go_simp
          refine (check_eq _ _ _ _ _ _ _ _ (J : Int) (n : Int) _ _ _ _ r2 _ (hRt.below hHeld) (hBI.below hHeld) (hPL.below hHeld) HPS.out hmi (by omega) (by omega) HV2.out).mono ?_
          rintro e w3x ⟨rfl, hb⟩
          have hbt := HB.trans hHeld hb
          have hBI := hBI.below hbt
          have hBJ := hBJ.below hbt
          have hCI := hCI.below hbt
          have hCJ := hCJ.below hbt
          have hPL := hPL.below hbt
          have hRt := hRt.below hbt
          have hE := hE.step hbt
          go_wp2_with fail
          refine hK.out _ _ hbt (fun _ => held_next hbt (fun hHeld2 => ?_))
          clear hK hHeld hb hbt K
          have hHeld := hHeld2
          clear hHeld2
          refine wpAnyH_ready (rs := [57]) (by kernel_rfl) (by simp) ?_
          refine (AllReadyH.cons rfl (fun K hK => ?_) AllReadyH.nil)
          go_simp
          refine (rcheck_eq _ _ _ _ _ _ _ _ (J : Int) (n : Int) _ _ _ _ r2 _ (hRt.below hHeld) (hBI.below hHeld) (hPL.below hHeld) HPS.out hmi (by omega) (by omega) HV2.out).mono ?_
          rintro e w4x ⟨rfl, hb⟩
          have hbt := HB.trans hHeld hb
          have hBI := hBI.below hbt
          have hBJ := hBJ.below hbt
          have hCI := hCI.below hbt
          have hCJ := hCJ.below hbt
          have hPL := hPL.below hbt
          have hRt := hRt.below hbt
          have hE := hE.step hbt
          go_wp2_with fail
          refine hK.out _ _ hbt (fun _ => held_next hbt (fun hHeld2 => ?_))
          clear hK hHeld hb hbt K
          have hHeld := hHeld2
          clear hHeld2
          refine held_take (i := 58) (v := ?_) 133 rfl (by kernel_rfl) (by kernel_rfl) (by kernel_rfl) (fun _ _ _ h => h) rfl (by assumption) (Or.inl ⟨by rfl, ?_⟩) ?_
          rotate_left
          · intro w hSw; go_simp; (try with_reducible rfl)
          simp only [List.set_cons_zero, List.set_cons_succ]
          refine held_take (i := 59) (v := ?_) 134 rfl (by kernel_rfl) (by kernel_rfl) (by kernel_rfl) (fun _ _ _ h => h) rfl (by assumption) (Or.inl ⟨by rfl, ?_⟩) ?_
          rotate_left
          · intro w hSw; go_simp; (try with_reducible rfl)
          simp only [List.set_cons_zero, List.set_cons_succ]
          refine held_take (i := 60) (v := ?_) 135 rfl (by kernel_rfl) (by kernel_rfl) (by kernel_rfl) (fun _ _ _ h => h) rfl (by assumption) (Or.inl ⟨by rfl, ?_⟩) ?_
          rotate_left
          · intro w hSw; go_simp; (try with_reducible rfl)
          simp only [List.set_cons_zero, List.set_cons_succ]
          refine wpAnyH_ready (rs := [61]) (by kernel_rfl) (by simp) ?_
          refine (AllReadyH.cons rfl (fun K hK => ?_) AllReadyH.nil)
          go_simp
          refine (merk_known _).mono ?_
          rintro e w5x ⟨rfl, hb⟩
          have hbt := HB.trans hHeld hb
          have hBI := hBI.below hbt
          have hBJ := hBJ.below hbt
          have hCI := hCI.below hbt
          have hCJ := hCJ.below hbt
          have hPL := hPL.below hbt
          have hRt := hRt.below hbt
          have hE := hE.step hbt
          go_wp2_with fail
          refine hK.out _ _ hbt (fun _ => held_next hbt (fun hHeld2 => ?_))
          clear hK hHeld hb hbt K
          have hHeld := hHeld2
          clear hHeld2
          refine held_take (i := 62) (v := ?_) 137 rfl (by kernel_rfl) (by kernel_rfl) (by kernel_rfl) (fun _ _ _ h => h) rfl (by assumption) (Or.inl ⟨by rfl, ?_⟩) ?_
          rotate_left
          · intro w hSw; go_simp; (try with_reducible rfl)
          simp only [List.set_cons_zero, List.set_cons_succ]
          refine held_take (i := 63) (v := ?_) 6 rfl (by kernel_rfl) (by kernel_rfl) (by kernel_rfl) (fun _ _ _ h => h) rfl (by assumption) (Or.inl ⟨by rfl, ?_⟩) ?_
          rotate_left
          · intro w hSw; go_simp; (try with_reducible rfl)
          simp only [List.set_cons_zero, List.set_cons_succ]
          refine wpAnyH_done (by kernel_rfl) ?_ _
          go_wp2_with fail
          go_ret
          exact ⟨rfl, (hE.step hHeld).1⟩
end Go.Proofs.Ytaomkjnkfkahhaa
