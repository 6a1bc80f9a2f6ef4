/- The walk of MerkleSplit. -/
import Derived.Test.YtaomkjnkfkahhaaMerkM
import Derived.Test.YtaomkjnkfkahhaaHeld
namespace Go.Proofs.Ytaomkjnkfkahhaa
open Go.RowKit

theorem mpath_last (ls : List (List UInt8)) (i : Nat) (h : 2 ≤ ls.length) : 1 ≤ dep i ls.length ∧ (mpath ls i).getD (dep i ls.length - 1) [] = if i < mpart ls.length then mroot (ls.drop (mpart ls.length)) else mroot (ls.take (mpart ls.length)) := by
  rw [← mpath_length, mpath, if_neg (by omega)]
  split
  · refine ⟨by simp, ?_⟩
    rw [List.getD_eq_getElem?_getD, List.length_append, List.getElem?_append_right (by simp)]; simp
  · refine ⟨by simp, ?_⟩
    rw [List.getD_eq_getElem?_getD, List.length_append, List.getElem?_append_right (by simp)]; simp
theorem root_one_any (a : Option Addr) (cap : Nat) (x : List UInt8) (w : World) (h : LL w a 1 cap [x]) (hx : x.length ≤ 1000) : Calls Try.prog 10 #[.slice a 1 cap] w fun e w' => ∃ v, e = .returned v ∧ Own w' w.heap.size v (sha (0 :: x)) ∧ Below w.heap.size w w' := by
  have h := root_any 1 a cap [x] w h (by simpa using hx) (by omega)
  rw [mroot_one] at h
  exact h

set_option maxHeartbeats 4000000 in
set_option maxRecDepth 100000 in
theorem MerkleSplit_walk (v0 v1 : Value) (w : World) (h0 : Arg Try.prog w 22 v0) (h1 : Arg Try.prog w 3 v1) :
    Calls Try.prog 3 #[v0, v1] w fun e w' => e = .returned (.bool true) ∧ Below w.heap.size w w' := by
  obtain ⟨a0, len0, cap0, ls0, rfl, hL0⟩ := h0.lists
  obtain ⟨i0, rfl, _⟩ := h1.int Try.underlying3
  clear h0 h1
  have hE := Ext.refl w
  obtain ⟨H, hH⟩ : ∃ H, H = w.heap.size := ⟨_, rfl⟩
  rw [← hH] at hE ⊢
  go_enter Try.func3, Try.ntmps3
  go_wp2_with fail
  refine (few_any a0 len0 cap0 ls0 w hL0).mono ?_
  rintro e w1 ⟨v, rfl, hO, hb⟩
  have hE := hE.step hb
  obtain ⟨a, c, rfl, hL⟩ := hO.ll (n := min len0 40) (by rw [fewL_length, hL0.1])
  have hsh : ∀ x ∈ fewL ls0, x.length ≤ 1000 := fun x hx => Nat.le_trans (fewL_short ls0 x hx) (by omega)
  have hn : min len0 40 ≤ 40 := Nat.min_le_right _ _
  have hll := hL.1
  generalize fewL ls0 = L at *
  generalize min len0 40 = n at *
  have HS := Lib.hid hsh
  have HN := Lib.hid hll
  clear hO hb hL0 hsh hll hH
  have z1 : ∀ L : List UInt8, (!(strOf L).toList == (strOf L).toList) = false := fun L => by simp
  by_cases h2 : n < 2
  · by_cases hz : n = 0
    · subst hz
      clear hL
      go_upto_region 3 with fail
      obtain ⟨wd, hwd⟩ : ∃ wd, wd = w1.drew := ⟨_, rfl⟩
      have hb : Below w1.heap.size w1 wd := by rw [hwd]; exact (Below.refl _ _).drew
      have hE := hE.step hb
      clear hb
      refine held_start (by kernel_rfl) (fun hHeld => ?_)
      rw [← hwd] at hHeld ⊢
      clear hwd
      refine held_take (i := 0) (v := ?_) 17 rfl (by kernel_rfl) (by kernel_rfl) (by kernel_rfl) (fun _ _ _ h => h) rfl (by assumption) (Or.inl ⟨by rfl, ?_⟩) ?_
      rotate_left
      · intro w hSw; go_simp; (try with_reducible rfl)
      simp only [List.set_cons_zero, List.set_cons_succ]
      refine held_take (i := 1) (v := ?_) 18 rfl (by kernel_rfl) (by kernel_rfl) (by kernel_rfl) (fun _ _ _ h => h) rfl (by assumption) (Or.inl ⟨by rfl, ?_⟩) ?_
      rotate_left
      · intro w hSw; go_simp; (try with_reducible rfl)
      simp only [List.set_cons_zero, List.set_cons_succ]
      refine held_take (i := 2) (v := ?_) 19 rfl (by kernel_rfl) (by kernel_rfl) (by kernel_rfl) (fun _ _ _ h => h) rfl (by assumption) (Or.inl ⟨by rfl, ?_⟩) ?_
      rotate_left
      · intro w hSw; go_simp; (try with_reducible rfl)
      simp only [List.set_cons_zero, List.set_cons_succ]
      refine held_take (i := 3) (v := ?_) 20 rfl (by kernel_rfl) (by kernel_rfl) (by kernel_rfl) (fun _ _ _ h => h) rfl (by assumption) (Or.inl ⟨by rfl, ?_⟩) ?_
      rotate_left
      · intro w hSw; go_simp; (try with_reducible rfl)
      simp only [List.set_cons_zero, List.set_cons_succ]
      refine held_take (i := 4) (v := undef) 21 rfl (by kernel_rfl) (by kernel_rfl) (by kernel_rfl) (fun _ _ _ h => h) rfl (by assumption) (Or.inr ⟨by rfl, rfl⟩) ?_
      simp only [List.set_cons_zero, List.set_cons_succ]
      refine held_take (i := 5) (v := undef) 22 rfl (by kernel_rfl) (by kernel_rfl) (by kernel_rfl) (fun _ _ _ h => h) rfl (by assumption) (Or.inr ⟨by rfl, rfl⟩) ?_
      simp only [List.set_cons_zero, List.set_cons_succ]
      refine held_take (i := 6) (v := undef) 23 rfl (by kernel_rfl) (by kernel_rfl) (by kernel_rfl) (fun _ _ _ h => h) rfl (by assumption) (Or.inr ⟨by rfl, rfl⟩) ?_
      simp only [List.set_cons_zero, List.set_cons_succ]
      refine held_take (i := 7) (v := undef) 24 rfl (by kernel_rfl) (by kernel_rfl) (by kernel_rfl) (fun _ _ _ h => h) rfl (by assumption) (Or.inr ⟨by rfl, rfl⟩) ?_
      simp only [List.set_cons_zero, List.set_cons_succ]
      refine held_take (i := 8) (v := undef) 25 rfl (by kernel_rfl) (by kernel_rfl) (by kernel_rfl) (fun _ _ _ h => h) rfl (by assumption) (Or.inr ⟨by rfl, rfl⟩) ?_
      simp only [List.set_cons_zero, List.set_cons_succ]
      refine held_take (i := 9) (v := undef) 26 rfl (by kernel_rfl) (by kernel_rfl) (by kernel_rfl) (fun _ _ _ h => h) rfl (by assumption) (Or.inr ⟨by rfl, rfl⟩) ?_
      simp only [List.set_cons_zero, List.set_cons_succ]
      refine held_take (i := 10) (v := undef) 27 rfl (by kernel_rfl) (by kernel_rfl) (by kernel_rfl) (fun _ _ _ h => h) rfl (by assumption) (Or.inr ⟨by rfl, rfl⟩) ?_
      simp only [List.set_cons_zero, List.set_cons_succ]
      refine held_take (i := 11) (v := undef) 28 rfl (by kernel_rfl) (by kernel_rfl) (by kernel_rfl) (fun _ _ _ h => h) rfl (by assumption) (Or.inr ⟨by rfl, rfl⟩) ?_
      simp only [List.set_cons_zero, List.set_cons_succ]
      refine held_take (i := 12) (v := undef) 29 rfl (by kernel_rfl) (by kernel_rfl) (by kernel_rfl) (fun _ _ _ h => h) rfl (by assumption) (Or.inr ⟨by rfl, rfl⟩) ?_
      simp only [List.set_cons_zero, List.set_cons_succ]
      refine held_take (i := 13) (v := ?_) 30 rfl (by kernel_rfl) (by kernel_rfl) (by kernel_rfl) (fun _ _ _ h => h) rfl (by assumption) (Or.inl ⟨by rfl, ?_⟩) ?_
      rotate_left
      · intro w hSw; go_simp; (try with_reducible rfl)
      simp only [List.set_cons_zero, List.set_cons_succ]
      refine held_take (i := 14) (v := ?_) 31 rfl (by kernel_rfl) (by kernel_rfl) (by kernel_rfl) (fun _ _ _ h => h) rfl (by assumption) (Or.inl ⟨by rfl, ?_⟩) ?_
      rotate_left
      · intro w hSw; go_simp; (try with_reducible rfl)
      simp only [List.set_cons_zero, List.set_cons_succ]
      refine wpAnyH_ready (rs := [15]) (by kernel_rfl) (by simp) ?_
      refine (AllReadyH.cons rfl (fun K hK => ?_) AllReadyH.nil)
      go_simp
      refine (merk_known _).mono ?_
      rintro e w1x ⟨rfl, hb⟩
      have hbt := HB.trans hHeld hb
      have hE := hE.step hbt
      go_wp2_with fail
      refine hK.out _ _ hbt (fun _ => held_next hbt (fun hHeld2 => ?_))
      clear hK hHeld hb hbt K
      have hHeld := hHeld2
      clear hHeld2
      refine held_take (i := 16) (v := ?_) 33 rfl (by kernel_rfl) (by kernel_rfl) (by kernel_rfl) (fun _ _ _ h => h) rfl (by assumption) (Or.inl ⟨by rfl, ?_⟩) ?_
      rotate_left
      · intro w hSw; go_simp; (try with_reducible rfl)
      simp only [List.set_cons_zero, List.set_cons_succ]
      refine held_take (i := 17) (v := ?_) 4 rfl (by kernel_rfl) (by kernel_rfl) (by kernel_rfl) (fun _ _ _ h => h) rfl (by assumption) (Or.inl ⟨by rfl, ?_⟩) ?_
      rotate_left
      · intro w hSw; go_simp; (try with_reducible rfl)
      simp only [List.set_cons_zero, List.set_cons_succ]
      refine wpAnyH_done (by kernel_rfl) ?_ _
      go_wp2_with fail
      go_ret
      exact ⟨rfl, (hE.step hHeld).1⟩
    · obtain rfl : n = 1 := by omega
      obtain ⟨x, rfl⟩ := List.length_eq_one_iff.1 HN.out
      obtain ⟨b, off, al, ml, cl, rfl, hCl, hBl⟩ := hL.row (k := 0) (by omega)
      have hBl : Bs w1 al ml cl x := hBl
      have hx1 : x.length ≤ 1000 := HS.out x (by simp)
      have hml : ml ≤ 1000 := by rw [← hBl.1]; exact hx1
      rw [Nat.add_zero] at hCl
      go_upto_region 3 with fail
      obtain ⟨wd, hwd⟩ : ∃ wd, wd = w1.drew := ⟨_, rfl⟩
      have hb : Below w1.heap.size w1 wd := by rw [hwd]; exact (Below.refl _ _).drew
      have hL := hL.below hb
      have hBl := hBl.below hb
      have hCl := hCl.below hb
      have hE := hE.step hb
      clear hb
      refine held_start (by kernel_rfl) (fun hHeld => ?_)
      rw [← hwd] at hHeld ⊢
      clear hwd
      refine held_take (i := 0) (v := ?_) 17 rfl (by kernel_rfl) (by kernel_rfl) (by kernel_rfl) (fun _ _ _ h => h) rfl (by assumption) (Or.inl ⟨by rfl, ?_⟩) ?_
      rotate_left
      · intro w hSw; go_simp; (try with_reducible rfl)
      simp only [List.set_cons_zero, List.set_cons_succ]
      refine held_take (i := 1) (v := ?_) 18 rfl (by kernel_rfl) (by kernel_rfl) (by kernel_rfl) (fun _ _ _ h => h) rfl (by assumption) (Or.inl ⟨by rfl, ?_⟩) ?_
      rotate_left
      · intro w hSw; go_simp; (try with_reducible rfl)
      simp only [List.set_cons_zero, List.set_cons_succ]
      refine held_take (i := 2) (v := ?_) 19 rfl (by kernel_rfl) (by kernel_rfl) (by kernel_rfl) (fun _ _ _ h => h) rfl (by assumption) (Or.inl ⟨by rfl, ?_⟩) ?_
      rotate_left
      · intro w hSw; go_simp; (try with_reducible rfl)
      simp only [List.set_cons_zero, List.set_cons_succ]
      refine held_take (i := 3) (v := ?_) 20 rfl (by kernel_rfl) (by kernel_rfl) (by kernel_rfl) (fun _ _ _ h => h) rfl (by assumption) (Or.inl ⟨by rfl, ?_⟩) ?_
      rotate_left
      · intro w hSw; go_simp; (try with_reducible rfl)
      simp only [List.set_cons_zero, List.set_cons_succ]
      refine held_take (i := 4) (v := ?_) 21 rfl (by kernel_rfl) (by kernel_rfl) (by kernel_rfl) (fun _ _ _ h => h) rfl (by assumption) (Or.inl ⟨by rfl, ?_⟩) ?_
      rotate_left
      · intro w hSw; go_simp; (try with_reducible rfl)
      simp only [List.set_cons_zero, List.set_cons_succ]
      refine held_take (i := 7) (v := ?_) 24 rfl (by kernel_rfl) (by kernel_rfl) (by kernel_rfl) (fun _ _ _ h => h) rfl (by assumption) (Or.inl ⟨by rfl, ?_⟩) ?_
      rotate_left
      · intro w hSw; go_simp; (try with_reducible rfl)
      simp only [List.set_cons_zero, List.set_cons_succ]
      refine held_take (i := 8) (v := ?_) 25 rfl (by kernel_rfl) (by kernel_rfl) (by kernel_rfl) (fun _ _ _ h => h) rfl (by assumption) (Or.inl ⟨by rfl, ?_⟩) ?_
      rotate_left
      · intro w hSw; go_simp; (try with_reducible rfl)
      simp only [List.set_cons_zero, List.set_cons_succ]
      refine held_take (i := 9) (v := ?_) 26 rfl (by kernel_rfl) (by kernel_rfl) (by kernel_rfl) (fun _ _ _ h => h) rfl (by assumption) (Or.inl ⟨by rfl, ?_⟩) ?_
      rotate_left
      · intro w hSw; have hc := (hCl.below hSw).2; go_simp; (try with_reducible rfl)
      simp only [List.set_cons_zero, List.set_cons_succ]
      refine wpAnyH_ready (rs := [5]) (by kernel_rfl) (by simp) ?_
      refine (AllReadyH.cons rfl (fun K hK => ?_) AllReadyH.nil)
      go_simp
      refine (root_one_any _ _ _ _ (hL.below hHeld) hx1).mono ?_
      rintro e w1x ⟨v5, rfl, ho5, hb⟩
      have hbt := HB.trans hHeld hb
      have hL := hL.below hbt
      have hBl := hBl.below hbt
      have hCl := hCl.below hbt
      have hE := hE.step hbt
      obtain ⟨a5, c5, rfl, hB5⟩ := ho5.bsn (n := 32) (sha_length _)
      clear ho5
      go_wp2_with fail
      refine hK.out _ _ hbt (fun _ => held_next hbt (fun hHeld2 => ?_))
      clear hK hHeld hb hbt K
      have hHeld := hHeld2
      clear hHeld2
      refine held_take (i := 6) (v := ?_) 23 rfl (by kernel_rfl) (by kernel_rfl) (by kernel_rfl) (fun _ _ _ h => h) rfl (by assumption) (Or.inl ⟨by rfl, ?_⟩) ?_
      rotate_left
      · intro w hSw; have hs := run_string (hB5.below hSw); go_simp; (try with_reducible rfl)
      simp only [List.set_cons_zero, List.set_cons_succ]
      refine wpAnyH_ready (rs := [10]) (by kernel_rfl) (by simp) ?_
      refine (AllReadyH.cons rfl (fun K hK => ?_) AllReadyH.nil)
      go_simp
      refine (rleaf_any _ _ _ _ _ (hBl.below hHeld) (by omega)).mono ?_
      rintro e w2x ⟨v10, rfl, ho10, hb⟩
      have hbt := HB.trans hHeld hb
      have hL := hL.below hbt
      have hBl := hBl.below hbt
      have hCl := hCl.below hbt
      have hE := hE.step hbt
      have hB5 := hB5.below hbt
      obtain ⟨a10, c10, rfl, hB10⟩ := ho10.bsn (n := 32) (sha_length _)
      clear ho10
      go_wp2_with fail
      refine hK.out _ _ hbt (fun _ => held_next hbt (fun hHeld2 => ?_))
      clear hK hHeld hb hbt K
      have hHeld := hHeld2
      clear hHeld2
      refine held_take (i := 11) (v := ?_) 28 rfl (by kernel_rfl) (by kernel_rfl) (by kernel_rfl) (fun _ _ _ h => h) rfl (by assumption) (Or.inl ⟨by rfl, ?_⟩) ?_
      rotate_left
      · intro w hSw; have hs := run_string (hB10.below hSw); go_simp; (try with_reducible rfl)
      simp only [List.set_cons_zero, List.set_cons_succ]
      refine held_take (i := 12) (v := ?_) 29 rfl (by kernel_rfl) (by kernel_rfl) (by kernel_rfl) (fun _ _ _ h => h) rfl (by assumption) (Or.inl ⟨by rfl, ?_⟩) ?_
      rotate_left
      · intro w hSw; go_simp; (try with_reducible rfl)
      simp only [List.set_cons_zero, List.set_cons_succ]
      refine held_take (i := 13) (v := ?_) 30 rfl (by kernel_rfl) (by kernel_rfl) (by kernel_rfl) (fun _ _ _ h => h) rfl (by assumption) (Or.inl ⟨by rfl, ?_⟩) ?_
      rotate_left
      · intro w hSw; go_simp; (try with_reducible rfl)
      simp only [List.set_cons_zero, List.set_cons_succ]
      refine held_take (i := 14) (v := ?_) 31 rfl (by kernel_rfl) (by kernel_rfl) (by kernel_rfl) (fun _ _ _ h => h) rfl (by assumption) (Or.inl ⟨by rfl, ?_⟩) ?_
      rotate_left
      · intro w hSw; go_simp; (try with_reducible rfl)
      simp only [List.set_cons_zero, List.set_cons_succ]
      refine wpAnyH_ready (rs := [15]) (by kernel_rfl) (by simp) ?_
      refine (AllReadyH.cons rfl (fun K hK => ?_) AllReadyH.nil)
      go_simp
      refine (merk_known _).mono ?_
      rintro e w3x ⟨rfl, hb⟩
      have hbt := HB.trans hHeld hb
      have hL := hL.below hbt
      have hBl := hBl.below hbt
      have hCl := hCl.below hbt
      have hE := hE.step hbt
      have hB5 := hB5.below hbt
      have hB10 := hB10.below hbt
      go_wp2_with fail
      refine hK.out _ _ hbt (fun _ => held_next hbt (fun hHeld2 => ?_))
      clear hK hHeld hb hbt K
      have hHeld := hHeld2
      clear hHeld2
      refine held_take (i := 16) (v := ?_) 33 rfl (by kernel_rfl) (by kernel_rfl) (by kernel_rfl) (fun _ _ _ h => h) rfl (by assumption) (Or.inl ⟨by rfl, ?_⟩) ?_
      rotate_left
      · intro w hSw; go_simp; (try with_reducible rfl)
      simp only [List.set_cons_zero, List.set_cons_succ]
      refine held_take (i := 17) (v := ?_) 4 rfl (by kernel_rfl) (by kernel_rfl) (by kernel_rfl) (fun _ _ _ h => h) rfl (by assumption) (Or.inl ⟨by rfl, ?_⟩) ?_
      rotate_left
      · intro w hSw; go_simp; (try with_reducible rfl)
      simp only [List.set_cons_zero, List.set_cons_succ]
      refine wpAnyH_done (by kernel_rfl) ?_ _
      go_wp2_with fail
      go_ret
      exact ⟨rfl, (hE.step hHeld).1⟩
  · have hcap := hL.2.1
    have hp := mpart_spec (n := n) (by omega)
    have HP := Lib.hid hp
    go_upto_block 0 with fail
    go_cut [6] (fun s wr => s = .int .i64 ((mpart n : Nat) : Int) ∧ w1 = wr)
    case first =>
      go_wp2_with fail
      go_loopw [6] (fun i wr => ∃ k : Nat, i = .int .i64 (k : Int) ∧ 0 < k ∧ k ≤ 1000000 ∧ partF n k = mpart n ∧ w1 = wr) (fun i _ => n - (intOf i).toNat)
      case atStart => exact ⟨1, rfl, by omega, by omega, rfl, rfl⟩
      case round =>
        obtain ⟨k, rfl, hk0, hk, hpk, rfl⟩ := hrel
        have i2 : IntKind.i64.wrap (2 * (k : Int)) = 2 * (k : Int) := IntWalk.i64_in _ (by omega)
        by_cases hlt : 2 * k < n
        · have hp2 : partF n (2 * k) = mpart n := by rw [← partF_go hk0 hlt]; exact hpk
          have HP2 := Lib.hid hp2
          clear hpk hp2
          have e1 : 2 * (k : Int) < (n : Int) := by omega
          go_wp2_with fail
          go_roundw
          case rel => exact ⟨2 * k, by go_num, by omega, by omega, HP2.out, trivial⟩
          case measure => simp [intOf]; omega
        · rw [partF_stop hlt] at hpk
          subst hpk
          have e1 : ¬ 2 * (mpart n : Int) < (n : Int) := by omega
          go_wp2_with fail
          go_meet
          exact ⟨rfl, rfl⟩
    case rest =>
      obtain ⟨rfl, rfl⟩ := hcut
      have hT := hL.take (k := mpart n) (by omega)
      have hD := hL.drop (k := mpart n) (by omega)
      obtain ⟨ad, had⟩ : ∃ ad, (if c = mpart n then a else a.map (·.add (mpart n))) = ad := ⟨_, rfl⟩
      rw [had] at hD
      have e1 : (0 : Int) ≤ ((mpart n : Nat) : Int) := by omega
      have e2 : ((mpart n : Nat) : Int) ≤ (n : Int) := by omega
      have e3 : ((mpart n : Nat) : Int) ≤ (c : Int) := by omega
      have e4 : mpart n ≤ n := by omega
      have e5 : mpart n ≤ c := by omega
      have HR : Hid (mroot L = sha (1 :: (mroot (L.take (mpart n)) ++ mroot (L.drop (mpart n))))) := Lib.hid (by rw [mroot_more (ls := L) (by rw [HN.out]; omega), HN.out])
      clear hp
      go_upto_region 7 with fail
      go_cut [7, 8] (fun s t wr => ∃ a5 c5 a7 c7, s = .slice a5 32 c5 ∧ t = .slice a7 32 c7 ∧ Bs wr a5 32 c5 (mroot (L.take (mpart n))) ∧ Bs wr a7 32 c7 (mroot (L.drop (mpart n))) ∧ LL wr a n c L ∧ Ext H w wr)
      case first =>
        obtain ⟨wd, hwd⟩ : ∃ wd, wd = w1.drew := ⟨_, rfl⟩
        have hb : Below w1.heap.size w1 wd := by rw [hwd]; exact (Below.refl _ _).drew
        have hT := hT.below hb
        have hD := hD.below hb
        have hL := hL.below hb
        have hE := hE.step hb
        clear hb
        refine held_start (by kernel_rfl) (fun hHeld => ?_)
        rw [← hwd] at hHeld ⊢
        clear hwd
        refine held_take (i := 0) (v := ?_) 41 rfl (by kernel_rfl) (by kernel_rfl) (by kernel_rfl) (fun _ _ _ h => h) rfl (by assumption) (Or.inl ⟨by rfl, ?_⟩) ?_
        rotate_left
        · intro w hSw; go_simp; (try with_reducible rfl)
        simp only [List.set_cons_zero, List.set_cons_succ]
        refine held_take (i := 1) (v := ?_) 42 rfl (by kernel_rfl) (by kernel_rfl) (by kernel_rfl) (fun _ _ _ h => h) rfl (by assumption) (Or.inl ⟨by rfl, ?_⟩) ?_
        rotate_left
        · intro w hSw; go_simp; (try with_reducible rfl)
        simp only [List.set_cons_zero, List.set_cons_succ]
        refine held_take (i := 2) (v := ?_) 43 rfl (by kernel_rfl) (by kernel_rfl) (by kernel_rfl) (fun _ _ _ h => h) rfl (by assumption) (Or.inl ⟨by rfl, ?_⟩) ?_
        rotate_left
        · intro w hSw; go_simp; (try with_reducible rfl)
        simp only [List.set_cons_zero, List.set_cons_succ]
        refine held_take (i := 4) (v := ?_) 45 rfl (by kernel_rfl) (by kernel_rfl) (by kernel_rfl) (fun _ _ _ h => h) rfl (by assumption) (Or.inl ⟨by rfl, ?_⟩) ?_
        rotate_left
        · intro w hSw; go_simp; (try with_reducible rfl)
        simp only [List.set_cons_zero, List.set_cons_succ]
        refine held_take (i := 5) (v := ?_) 46 rfl (by kernel_rfl) (by kernel_rfl) (by kernel_rfl) (fun _ _ _ h => h) rfl (by assumption) (Or.inl ⟨by rfl, ?_⟩) ?_
        rotate_left
        · intro w hSw; go_simp; (try with_reducible rfl)
        simp only [List.set_cons_zero, List.set_cons_succ]
        refine held_take (i := 6) (v := ?_) 47 rfl (by kernel_rfl) (by kernel_rfl) (by kernel_rfl) (fun _ _ _ h => h) rfl (by assumption) (Or.inl ⟨by rfl, ?_⟩) ?_
        rotate_left
        · intro w hSw; go_simp; (try with_reducible rfl)
        simp only [List.set_cons_zero, List.set_cons_succ]
        refine wpAnyH_ready (rs := [3]) (by kernel_rfl) (by simp) ?_
        refine (AllReadyH.cons rfl (fun K hK => ?_) AllReadyH.nil)
        go_simp
        refine (root_any (mpart n) _ c (L.take (mpart n)) _ (hT.below hHeld) (take_short HS.out _) (by omega)).mono ?_
        rintro e w1x ⟨v3, rfl, ho3, hb⟩
        have hbt := HB.trans hHeld hb
        have hT := hT.below hbt
        have hD := hD.below hbt
        have hL := hL.below hbt
        have hE := hE.step hbt
        obtain ⟨a3, c3, rfl, hB3⟩ := ho3.bsn (n := 32) (mroot_length _)
        clear ho3
        go_wp2_with fail
        refine hK.out _ _ hbt (fun _ => held_next hbt (fun hHeld2 => ?_))
        clear hK hHeld hb hbt K
        have hHeld := hHeld2
        clear hHeld2
        refine wpAnyH_ready (rs := [7]) (by kernel_rfl) (by simp) ?_
        refine (AllReadyH.cons rfl (fun K hK => ?_) AllReadyH.nil)
        go_simp
        refine (root_any (n - mpart n) _ (c - mpart n) (L.drop (mpart n)) _ (hD.below hHeld) (drop_short HS.out _) (by omega)).mono ?_
        rintro e w2x ⟨v7, rfl, ho7, hb⟩
        have hbt := HB.trans hHeld hb
        have hT := hT.below hbt
        have hD := hD.below hbt
        have hL := hL.below hbt
        have hE := hE.step hbt
        have hB3 := hB3.below hbt
        obtain ⟨a7, c7, rfl, hB7⟩ := ho7.bsn (n := 32) (mroot_length _)
        clear ho7
        go_wp2_with fail
        refine hK.out _ _ hbt (fun _ => held_next hbt (fun hHeld2 => ?_))
        clear hK hHeld hb hbt K
        have hHeld := hHeld2
        clear hHeld2
        refine held_take (i := 8) (v := ?_) 7 rfl (by kernel_rfl) (by kernel_rfl) (by kernel_rfl) (fun _ _ _ h => h) rfl (by assumption) (Or.inl ⟨by rfl, ?_⟩) ?_
        rotate_left
        · intro w hSw; go_simp; (try with_reducible rfl)
        simp only [List.set_cons_zero, List.set_cons_succ]
        refine held_take (i := 9) (v := ?_) 8 rfl (by kernel_rfl) (by kernel_rfl) (by kernel_rfl) (fun _ _ _ h => h) rfl (by assumption) (Or.inl ⟨by rfl, ?_⟩) ?_
        rotate_left
        · intro w hSw; go_simp; (try with_reducible rfl)
        simp only [List.set_cons_zero, List.set_cons_succ]
        refine wpAnyH_done (by kernel_rfl) ?_ _
        go_wp2_with fail
        go_meet
        exact ⟨_, _, _, _, rfl, rfl, hB3.below hHeld, hB7.below hHeld, hL.below hHeld, hE.step hHeld⟩
      case rest =>
        obtain ⟨a5, c5, a7, c7, rfl, rfl, hA, hB, hL, hE⟩ := hcut
        clear had hT hD
        obtain ⟨I, hI, _, hI2⟩ := within_nat i0 0 (n - 1) (by omega)
        have i1 : IntKind.i64.wrap ((n : Int) - 1) = ((n - 1 : Nat) : Int) := by rw [IntWalk.i64_in _ (by omega)]; omega
        have hWI := fun W => within_any i0 (0 : Nat) ((n - 1 : Nat) : Int) W (by omega) (by omega) (by omega)
        rw [hI] at hWI
        have HWI := Lib.hid hWI
        obtain ⟨n1, hn1⟩ : ∃ n1, n1 = n - 1 := ⟨_, rfl⟩
        rw [← hn1] at i1 HWI hI2
        have hIn : I < n := by omega
        clear hWI hI hn1 hI2
        go_wp2_with fail
        refine (HWI.out _).mono ?_
        rintro e wq ⟨rfl, rfl⟩
        clear HWI i1
        go_wp2_with fail
        refine (mpath_yes n a c L I _ hL HS.out (by omega) hIn).mono ?_
        rintro e w4 ⟨v, rfl, hP, hb⟩
        have hL := hL.below hb
        have hA := hA.below hb
        have hB := hB.below hb
        have hE := hE.step hb
        have hd := mpath_last L I (by rw [HN.out]; omega)
        rw [HN.out] at hd
        obtain ⟨ap, cp, rfl, hPL⟩ := hP.ll (n := dep I n) (by rw [mpath_length, HN.out])
        obtain ⟨hd1, hd2⟩ := hd
        have HD2 := Lib.hid hd2
        clear hd2
        have hd6 := dep_le 6 I n (by omega)
        generalize dep I n = lp at *
        generalize mpath L I = ps at *
        obtain ⟨l, rfl⟩ : ∃ l, lp = l + 1 := ⟨lp - 1, by omega⟩
        clear hP hb hd1
        have g5 : (((l + 1 : Nat) : Int) == 0) = false := by rw [beq_eq_false_iff_ne]; omega
        have g6 : ((l : Int) + 1 == 0) = false := by rw [beq_eq_false_iff_ne]; omega
        go_upto_region 10 with fail
        go_cut [76] (fun s wx => s = .bool false ∧ Bs wx a5 32 c5 (mroot (L.take (mpart n))) ∧ Bs wx a7 32 c7 (mroot (L.drop (mpart n))) ∧ LL wx ap (l + 1) cp ps ∧ Ext H w wx)
        case first =>
          obtain ⟨wd, hwd⟩ : ∃ wd, wd = w4.drew := ⟨_, rfl⟩
          have hb : Below w4.heap.size w4 wd := by rw [hwd]; exact (Below.refl _ _).drew
          have hA := hA.below hb
          have hB := hB.below hb
          have hL := hL.below hb
          have hPL := hPL.below hb
          have hE := hE.step hb
          clear hb
          refine held_start (by kernel_rfl) (fun hHeld => ?_)
          rw [← hwd] at hHeld ⊢
          clear hwd
          refine held_take (i := 0) (v := ?_) 60 rfl (by kernel_rfl) (by kernel_rfl) (by kernel_rfl) (fun _ _ _ h => h) rfl (by assumption) (Or.inl ⟨by rfl, ?_⟩) ?_
          rotate_left
          · intro w hSw; go_simp; (try with_reducible rfl)
          simp only [List.set_cons_zero, List.set_cons_succ]
          refine held_take (i := 1) (v := ?_) 61 rfl (by kernel_rfl) (by kernel_rfl) (by kernel_rfl) (fun _ _ _ h => h) rfl (by assumption) (Or.inl ⟨by rfl, ?_⟩) ?_
          rotate_left
          · intro w hSw; go_simp; (try with_reducible rfl)
          simp only [List.set_cons_zero, List.set_cons_succ]
          refine held_take (i := 2) (v := ?_) 62 rfl (by kernel_rfl) (by kernel_rfl) (by kernel_rfl) (fun _ _ _ h => h) rfl (by assumption) (Or.inl ⟨by rfl, ?_⟩) ?_
          rotate_left
          · intro w hSw; go_simp; (try with_reducible rfl)
          simp only [List.set_cons_zero, List.set_cons_succ]
          refine held_take (i := 3) (v := ?_) 63 rfl (by kernel_rfl) (by kernel_rfl) (by kernel_rfl) (fun _ _ _ h => h) rfl (by assumption) (Or.inl ⟨by rfl, ?_⟩) ?_
          rotate_left
          · intro w hSw; go_simp; (try with_reducible rfl)
          simp only [List.set_cons_zero, List.set_cons_succ]
          refine held_take (i := 4) (v := ?_) 64 rfl (by kernel_rfl) (by kernel_rfl) (by kernel_rfl) (fun _ _ _ h => h) rfl (by assumption) (Or.inl ⟨by rfl, ?_⟩) ?_
          rotate_left
          · intro w hSw; go_simp; (try with_reducible rfl)
          simp only [List.set_cons_zero, List.set_cons_succ]
          refine held_take (i := 5) (v := ?_) 65 rfl (by kernel_rfl) (by kernel_rfl) (by kernel_rfl) (fun _ _ _ h => h) rfl (by assumption) (Or.inl ⟨by rfl, ?_⟩) ?_
          rotate_left
          · intro w hSw; go_simp; (try with_reducible rfl)
          simp only [List.set_cons_zero, List.set_cons_succ]
          refine held_take (i := 6) (v := ?_) 66 rfl (by kernel_rfl) (by kernel_rfl) (by kernel_rfl) (fun _ _ _ h => h) rfl (by assumption) (Or.inl ⟨by rfl, ?_⟩) ?_
          rotate_left
          · intro w hSw; go_simp; (try with_reducible rfl)
          simp only [List.set_cons_zero, List.set_cons_succ]
          refine held_take (i := 7) (v := ?_) 67 rfl (by kernel_rfl) (by kernel_rfl) (by kernel_rfl) (fun _ _ _ h => h) rfl (by assumption) (Or.inl ⟨by rfl, ?_⟩) ?_
          rotate_left
          · intro w hSw; go_simp; (try with_reducible rfl)
          simp only [List.set_cons_zero, List.set_cons_succ]
          refine held_take (i := 8) (v := ?_) 68 rfl (by kernel_rfl) (by kernel_rfl) (by kernel_rfl) (fun _ _ _ h => h) rfl (by assumption) (Or.inl ⟨by rfl, ?_⟩) ?_
          rotate_left
          · intro w hSw; go_simp; (try with_reducible rfl)
          simp only [List.set_cons_zero, List.set_cons_succ]
          refine held_take (i := 11) (v := ?_) 71 rfl (by kernel_rfl) (by kernel_rfl) (by kernel_rfl) (fun _ _ _ h => h) rfl (by assumption) (Or.inl ⟨by rfl, ?_⟩) ?_
          rotate_left
          · intro w hSw; go_simp; (try with_reducible rfl)
          simp only [List.set_cons_zero, List.set_cons_succ]
          refine held_take (i := 12) (v := ?_) 72 rfl (by kernel_rfl) (by kernel_rfl) (by kernel_rfl) (fun _ _ _ h => h) rfl (by assumption) (Or.inl ⟨by rfl, ?_⟩) ?_
          rotate_left
          · intro w hSw; go_simp; (try with_reducible rfl)
          simp only [List.set_cons_zero, List.set_cons_succ]
          refine wpAnyH_ready (rs := [9]) (by kernel_rfl) (by simp) ?_
          refine (AllReadyH.cons rfl (fun K hK => ?_) AllReadyH.nil)
          go_simp
          refine (root_any n _ c L _ (hL.below hHeld) HS.out (by omega)).mono ?_
          rintro e w1x ⟨v9, rfl, ho9, hb⟩
          have hbt := HB.trans hHeld hb
          have hA := hA.below hbt
          have hB := hB.below hbt
          have hL := hL.below hbt
          have hPL := hPL.below hbt
          have hE := hE.step hbt
          rw [HR.out] at ho9
          obtain ⟨a9, c9, rfl, hB9⟩ := ho9.bsn (n := 32) (sha_length _)
          clear ho9
          go_wp2_with fail
          refine hK.out _ _ hbt (fun _ => held_next hbt (fun hHeld2 => ?_))
          clear hK hHeld hb hbt K
          have hHeld := hHeld2
          clear hHeld2
          refine held_take (i := 10) (v := ?_) 70 rfl (by kernel_rfl) (by kernel_rfl) (by kernel_rfl) (fun _ _ _ h => h) rfl (by assumption) (Or.inl ⟨by rfl, ?_⟩) ?_
          rotate_left
          · intro w hSw; have hs := run_string (hB9.below hSw); go_simp; (try with_reducible rfl)
          simp only [List.set_cons_zero, List.set_cons_succ]
          refine wpAnyH_ready (rs := [13]) (by kernel_rfl) (by simp) ?_
          refine (AllReadyH.cons rfl (fun K hK => ?_) AllReadyH.nil)
          go_simp
          refine (rpair_any _ _ _ _ _ _ _ _ _ (hA.below hHeld) (hB.below hHeld) (by omega)).mono ?_
          rintro e w2x ⟨v13, rfl, ho13, hb⟩
          have hbt := HB.trans hHeld hb
          have hA := hA.below hbt
          have hB := hB.below hbt
          have hL := hL.below hbt
          have hPL := hPL.below hbt
          have hE := hE.step hbt
          have hB9 := hB9.below hbt
          obtain ⟨a13, c13, rfl, hB13⟩ := ho13.bsn (n := 32) (sha_length _)
          clear ho13
          go_wp2_with fail
          refine hK.out _ _ hbt (fun _ => held_next hbt (fun hHeld2 => ?_))
          clear hK hHeld hb hbt K
          have hHeld := hHeld2
          clear hHeld2
          refine held_take (i := 14) (v := ?_) 74 rfl (by kernel_rfl) (by kernel_rfl) (by kernel_rfl) (fun _ _ _ h => h) rfl (by assumption) (Or.inl ⟨by rfl, ?_⟩) ?_
          rotate_left
          · intro w hSw; have hs := run_string (hB13.below hSw); go_simp; (try with_reducible rfl)
          simp only [List.set_cons_zero, List.set_cons_succ]
          refine held_take (i := 15) (v := ?_) 75 rfl (by kernel_rfl) (by kernel_rfl) (by kernel_rfl) (fun _ _ _ h => h) rfl (by assumption) (Or.inl ⟨by rfl, ?_⟩) ?_
          rotate_left
          · intro w hSw; go_simp; (try with_reducible rfl)
          simp only [List.set_cons_zero, List.set_cons_succ]
          refine held_take (i := 16) (v := ?_) 76 rfl (by kernel_rfl) (by kernel_rfl) (by kernel_rfl) (fun _ _ _ h => h) rfl (by assumption) (Or.inl ⟨by rfl, ?_⟩) ?_
          rotate_left
          · intro w hSw; go_simp; (try with_reducible rfl)
          simp only [List.set_cons_zero, List.set_cons_succ]
          refine wpAnyH_done (by kernel_rfl) ?_ _
          go_wp2_with fail
          go_meet
          exact ⟨rfl, hA.below hHeld, hB.below hHeld, hPL.below hHeld, hE.step hHeld⟩
        case rest =>
          obtain ⟨rfl, hA, hB, hPL, hE⟩ := hcut
          clear hL
          obtain ⟨b, off, al, ml, cl, rfl, hCl, hBl⟩ := hPL.row (k := l) (by omega)
          have hcell := hCl.2
          have hx : ps.getD l [] = if I < mpart n then mroot (L.drop (mpart n)) else mroot (L.take (mpart n)) := HD2.out
          rw [hx] at hBl
          have i2 : IntKind.i64.wrap (((l + 1 : Nat) : Int) - 1) = (l : Int) := by rw [IntWalk.i64_in _ (by omega)]; omega
          have i3 : IntKind.i64.wrap ((l : Int) + 1 - 1) = (l : Int) := by rw [IntWalk.i64_in _ (by omega)]; omega
          have f1 : (0 : Int) ≤ (l : Int) := by omega
          have f2 : (l : Int) < ((l + 1 : Nat) : Int) := by omega
          have rA := run_string hA
          have rB := run_string hB
          clear hx hCl hPL hA hB HD2
          by_cases hlt : I < mpart n
          · rw [if_pos hlt] at hBl
            have rL := run_string hBl
            have f3 : (I : Int) < ((mpart n : Nat) : Int) := by omega
            clear hBl hlt
            go_wp2_with fail
            refine (merk_known _).mono ?_
            rintro e w8 ⟨rfl, hb⟩
            have hE := hE.step hb
            go_wp2_with fail
            go_ret
            exact ⟨rfl, hE.1⟩
          · rw [if_neg hlt] at hBl
            have rL := run_string hBl
            have f3 : ¬ (I : Int) < ((mpart n : Nat) : Int) := by omega
            clear hBl hlt
            go_wp2_with fail
            refine (merk_known _).mono ?_
            rintro e w8 ⟨rfl, hb⟩
            have hE := hE.step hb
            go_wp2_with fail
            go_ret
            exact ⟨rfl, hE.1⟩
end Go.Proofs.Ytaomkjnkfkahhaa
