/- The walk of MerkleTells. -/
import Derived.Test.YtaomkjnkfkahhaaMerkT18
import Derived.Test.YtaomkjnkfkahhaaHeld
import Derived.Test.YtaomkjnkfkahhaaHeldB
import Derived.Deep.Cut
import Derived.Deep.DeepCutAuto
import Derived.Laws.BitsAllLaws
namespace Go.Proofs.Ytaomkjnkfkahhaa
open Go.RowKit

set_option maxHeartbeats 16000000 in
set_option maxRecDepth 100000 in
theorem mtells_any (a0 : Option Addr) (len0 cap0 : Nat) (ls0 : List (List UInt8)) (i0 m0 : Int) (fa : Option Addr) (fl fc : Nat) (fs : List UInt8) (x0 : Int) (t : UInt8) (at_ : Int) (w : World) (hL0 : LL w a0 len0 cap0 ls0) (hF : Bs w fa fl fc fs) :
    Calls Try.prog 6 #[.slice a0 len0 cap0, .int .i64 i0, .int .i64 m0, .slice fa fl fc, .int .i64 x0, .int .u8 (t.toNat : Int), .int .i64 at_] w fun e w' => e = .returned (.bool true) ∧ Below w.heap.size w w' := by
  have hE := Ext.refl w
  have z1 : ∀ L : List UInt8, (!(strOf L).toList == (strOf L).toList) = false := fun L => by simp
  obtain ⟨H, hH⟩ : ∃ H, H = w.heap.size := ⟨_, rfl⟩
  have HH0 := Lib.hid hH
  rw [← hH] at hE ⊢
  clear hH
  go_enter Try.func6, Try.ntmps6
  go_wp2_with fail
  refine (few_any a0 len0 cap0 ls0 w hL0).mono ?_
  rintro e w1 ⟨v, rfl, hO, hb⟩
  have hE := hE.step hb
  have hF := hF.below hb
  obtain ⟨a, c, rfl, hL⟩ := hO.ll (n := min len0 40) (by rw [fewL_length, hL0.1])
  have hsh : ∀ x ∈ fewL ls0, x.length ≤ 1000 := fun x hx => Nat.le_trans (fewL_short ls0 x hx) (by omega)
  have hn : min len0 40 ≤ 40 := Nat.min_le_right _ _
  have hll := hL.1
  generalize fewL ls0 = L at *
  generalize min len0 40 = n at *
  have HS := Lib.hid hsh
  have HN := Lib.hid hll
  clear hO hb hL0 hsh hll
  go_wp2_with fail
  refine (cut_any 40 fa fl fc w1 hF.2.1 (by omega)).mono ?_
  rintro e w2 ⟨rfl, rfl⟩
  replace hF := hF.take (k := min fl 40) (Nat.min_le_left _ _)
  have hfm : min fl 40 ≤ 40 := Nat.min_le_right _ _
  generalize min fl 40 = fm at *
  generalize fs.take fm = FF at *
  obtain ⟨wr, hwr⟩ : ∃ wr, wr = w1 := ⟨_, rfl⟩
  go_upto_region 3 with fail
  rw [← hwr] at hE hF hL ⊢
  clear hwr
  go_cut [36] (fun s wx => s = .bool false ∧ LL wx a n c L ∧ Bs wx fa fm fc FF ∧ Ext H w wx)
  case first =>
    obtain ⟨wd, hwd⟩ : ∃ wd, wd = wr.drew := ⟨_, rfl⟩
    have hb : Below wr.heap.size wr wd := by rw [hwd]; exact (Below.refl _ _).drew
    have hL := hL.below hb
    have hF := hF.below hb
    have hE := hE.step hb
    clear hb
    refine held_start (by kernel_rfl) (fun hHeld => ?_)
    rw [← hwd] at hHeld ⊢
    clear hwd
    refine held_take (i := 0) (v := ?_) 30 rfl (by kernel_rfl) (by kernel_rfl) (by kernel_rfl) (fun _ _ _ h => h) rfl (by assumption) (Or.inl ⟨by rfl, ?_⟩) ?_
    rotate_left
    · intro w hSw; go_simp; (try with_reducible rfl)
    simp only [List.set_cons_zero, List.set_cons_succ]
    refine held_take (i := 3) (v := ?_) 33 rfl (by kernel_rfl) (by kernel_rfl) (by kernel_rfl) (fun _ _ _ h => h) rfl (by assumption) (Or.inl ⟨by rfl, ?_⟩) ?_
    rotate_left
    · intro w hSw; go_simp; (try with_reducible rfl)
    simp only [List.set_cons_zero, List.set_cons_succ]
    refine wpAnyH_ready (rs := [1]) (by kernel_rfl) (by simp) ?_
    refine (AllReadyH.cons rfl (fun K hK => ?_) AllReadyH.nil)
    go_simp
    refine (root_any n _ c L _ (hL.below hHeld) HS.out (by omega)).mono ?_
    rintro e w1x ⟨v1, rfl, ho1, hb⟩
    have hbt := HB.trans hHeld hb
    have hL := hL.below hbt
    have hF := hF.below hbt
    have hE := hE.step hbt
    obtain ⟨a1, c1, rfl, hB1⟩ := ho1.bsn (n := 32) (mroot_length _)
    clear ho1
    go_wp2_with fail
    refine hK.out _ _ hbt (fun _ => held_next hbt (fun hHeld2 => ?_))
    clear hK hHeld hb hbt K
    have hHeld := hHeld2
    clear hHeld2
    refine held_take (i := 2) (v := ?_) 32 rfl (by kernel_rfl) (by kernel_rfl) (by kernel_rfl) (fun _ _ _ h => h) rfl (by assumption) (Or.inl ⟨by rfl, ?_⟩) ?_
    rotate_left
    · intro w hSw; have hs := run_string (hB1.below hSw); go_simp; (try with_reducible rfl)
    simp only [List.set_cons_zero, List.set_cons_succ]
    refine wpAnyH_ready (rs := [4]) (by kernel_rfl) (by simp) ?_
    refine (AllReadyH.cons rfl (fun K hK => ?_) AllReadyH.nil)
    go_simp
    refine (rroot_any n _ c L _ (hL.below hHeld) HS.out (by omega)).mono ?_
    rintro e w2x ⟨v4, rfl, ho4, hb⟩
    have hbt := HB.trans hHeld hb
    have hL := hL.below hbt
    have hF := hF.below hbt
    have hE := hE.step hbt
    have hB1 := hB1.below hbt
    obtain ⟨a4, c4, rfl, hB4⟩ := ho4.bsn (n := 32) (mroot_length _)
    clear ho4
    go_wp2_with fail
    refine hK.out _ _ hbt (fun _ => held_next hbt (fun hHeld2 => ?_))
    clear hK hHeld hb hbt K
    have hHeld := hHeld2
    clear hHeld2
    refine held_take (i := 5) (v := ?_) 35 rfl (by kernel_rfl) (by kernel_rfl) (by kernel_rfl) (fun _ _ _ h => h) rfl (by assumption) (Or.inl ⟨by rfl, ?_⟩) ?_
    rotate_left
    · intro w hSw; have hs := run_string (hB4.below hSw); go_simp; (try with_reducible rfl)
    simp only [List.set_cons_zero, List.set_cons_succ]
    refine held_take (i := 6) (v := ?_) 36 rfl (by kernel_rfl) (by kernel_rfl) (by kernel_rfl) (fun _ _ _ h => h) rfl (by assumption) (Or.inl ⟨by rfl, ?_⟩) ?_
    rotate_left
    · intro w hSw; go_simp; (try with_reducible rfl)
    simp only [List.set_cons_zero, List.set_cons_succ]
    refine wpAnyH_done (by kernel_rfl) ?_ _
    go_wp2_with fail
    go_meet
    exact ⟨rfl, hL.below hHeld, hF.below hHeld, hE.step hHeld⟩
  case rest =>
  obtain ⟨rfl, hL, hF, hE⟩ := hcut
  as_aux_lemma =>
  clear z1
  by_cases hz : n = 0
  · subst hz
    clear hL hF
    go_wp2_with fail
    refine (merk_known _).mono ?_
    rintro e w8 ⟨rfl, hb⟩
    have hE := hE.step hb
    go_wp2_with fail
    go_ret
    exact ⟨rfl, hE.1⟩
  obtain ⟨N1, hN1⟩ : ∃ N1, n = N1 + 1 := ⟨n - 1, by omega⟩
  have i1 : IntKind.i64.wrap ((n : Int) - 1) = (N1 : Int) := by rw [IntWalk.i64_in _ (by omega)]; omega
  have n0 : ((n : Int) == 0) = false := by simp; omega
  have n1 : ¬ (n : Int) = 0 := by omega
  have hIb := within_bd i0 0 (N1 : Int) (by omega)
  have hMb := within_bd m0 1 (n : Int) (by omega)
  have HWi := Lib.hid (fun w => within_any i0 0 (N1 : Int) w (by omega) (by omega) (by omega))
  have HWm := Lib.hid (fun w => within_any m0 1 (n : Int) w (by omega) (by omega) (by omega))
  generalize within i0 0 (N1 : Int) = I' at *
  generalize within m0 1 (n : Int) = M' at *
  obtain ⟨I, rfl⟩ : ∃ I : Nat, I' = (I : Int) := ⟨I'.toNat, by omega⟩
  obtain ⟨M, rfl⟩ : ∃ M : Nat, M' = (M : Int) := ⟨M'.toNat, by omega⟩
  have hIn : I < n := by omega
  have hM1 : 1 ≤ M := by omega
  have hMn : M ≤ n := by omega
  have hnp : 0 < n := by omega
  clear hN1 hIb hMb hz
  go_wp2_with fail
  refine (HWi.out _).mono ?_
  rintro e wq ⟨rfl, rfl⟩
  go_wp2_with fail
  refine (HWm.out _).mono ?_
  rintro e wq ⟨rfl, rfl⟩
  clear HWi HWm
  go_wp2_with fail
  refine (mpath_yes n a c L I _ hL HS.out (by omega) (by omega)).mono ?_
  rintro e w3 ⟨v3, rfl, hOp, hb⟩
  have hE := hE.step hb
  have hL := hL.below hb
  have hF := hF.below hb
  clear hb
  obtain ⟨dq, hdq⟩ : ∃ dq, dq = (mpath L I).length := ⟨_, rfl⟩
  obtain ⟨pa, pc, rfl, hLp⟩ := hOp.ll (n := dq) hdq.symm
  have hdq2 : dq ≤ 6 := by rw [hdq, mpath_length]; exact dep_le 6 _ _ (by rw [HN.out]; omega)
  have HDQ := Lib.hid hdq
  clear hOp hdq
  go_wp2_with fail
  refine (mgrown_yes n a c L M _ hL HS.out (by omega) (by omega) (by omega)).mono ?_
  rintro e w4 ⟨v4, rfl, hOg, hb⟩
  have hE := hE.step hb
  have hL := hL.below hb
  have hF := hF.below hb
  have hLp := hLp.below hb
  clear hb
  obtain ⟨dh, hdh⟩ : ∃ dh, dh = (mgrown L M true).length := ⟨_, rfl⟩
  obtain ⟨ga, gc, rfl, hLg⟩ := hOg.ll (n := dh) hdh.symm
  have hdh2 : dh ≤ 7 := by rw [hdh, mgrown_length]; exact gdep_le 6 _ _ _ (by rw [HN.out]; omega)
  have HDH := Lib.hid hdh
  clear hOg hdh
  go_wp2_with fail
  refine (rpath_any n a c L I _ hL HS.out (by omega) (by omega)).mono ?_
  rintro e w5 ⟨v5, rfl, hOq, hb⟩
  have HS45 := Lib.hid (And.intro hE.2 hb.size)
  have HLB := Lib.hid (show ∀ b off, a = some ⟨b, off, none⟩ → b < w4.heap.size from fun b off hab => by
    obtain ⟨b', o', h1, h2, _⟩ := hL.at (by omega)
    rw [hab] at h1; injection h1 with h1; injection h1 with h1 _ _; omega)
  have hE := hE.step hb
  have hL := hL.below hb
  have hF := hF.below hb
  have hLp := hLp.below hb
  have hLg := hLg.below hb
  clear hb
  obtain ⟨qa, qc, rfl, hLq⟩ := hOq.ll (n := dq) HDQ.out.symm
  go_wp2_with fail
  refine (rgrown_yes n a c L M _ hL HS.out (by omega) (by omega) (by omega)).mono ?_
  rintro e w6 ⟨v6, rfl, hOh, hb⟩
  have hPq : Place w5 qa dq w4.heap.size w5.heap.size := fun h => by
    obtain ⟨g, e1, e2, e3⟩ := hOq.place (by rw [← HDQ.out]; exact h)
    exact ⟨g, e1, e2, e3.lt, e3⟩
  replace hPq := hPq.below hb
  have hE := hE.step hb
  have hL := hL.below hb
  have hF := hF.below hb
  have hLp := hLp.below hb
  have hLg := hLg.below hb
  have hLq := hLq.below hb
  clear hb
  obtain ⟨ha, hc, rfl, hLh⟩ := hOh.ll (n := dh) HDH.out.symm
  have hPh : Place w6 ha dh w5.heap.size w6.heap.size := fun h => by
    obtain ⟨g, e1, e2, e3⟩ := hOh.place (by rw [← HDH.out]; exact h)
    exact ⟨g, e1, e2, e3.lt, e3⟩
  clear hOq hOh
  go_wp2_with fail
  refine (lists_same pa qa dq pc qc (mpath L I) _ hLp hLq (by omega)).mono ?_
  rintro e w7 ⟨rfl, hb⟩
  have hE := hE.step hb
  have hL := hL.below hb
  have hF := hF.below hb
  have hLg := hLg.below hb
  have hLq := hLq.below hb
  have hLh := hLh.below hb
  have hPq := hPq.below hb
  have hPh := hPh.below hb
  clear hb hLp
  go_wp2_with fail
  refine (lists_same ga ha dh gc hc (mgrown L M true) _ hLg hLh (by omega)).mono ?_
  rintro e w8 ⟨rfl, hb⟩
  have hE := hE.step hb
  have hL := hL.below hb
  have hF := hF.below hb
  have hLq := hLq.below hb
  have hLh := hLh.below hb
  have hPq := hPq.below hb
  have hPh := hPh.below hb
  clear hb hLg
  obtain ⟨wx, hwx⟩ : ∃ wx, wx = w8 := ⟨_, rfl⟩
  have HSZ := Lib.hid (And.intro HDQ.out HDH.out)
  have hM0 : (0 : Int) ≤ (M : Int) := by omega
  have hMc : (M : Int) ≤ (c : Int) := by have := hL.2.1; omega
  clear i1
  go_upto_region 14 with fail
  rw [← hwx] at hE hF hL hLq hLh hPq hPh ⊢
  clear hwx
  obtain ⟨wd, hwd⟩ : ∃ wd, wd = wx.drew := ⟨_, rfl⟩
  have hb : Below wx.heap.size wx wd := by rw [hwd]; exact (Below.refl _ _).drew
  have hL := hL.below hb
  have hF := hF.below hb
  have hLq := hLq.below hb
  have hLh := hLh.below hb
  have hPq := hPq.below hb
  have hPh := hPh.below hb
  have hE := hE.step hb
  clear hb
  refine held_start (by kernel_rfl) (fun hHeld => ?_)
  rw [← hwd] at hHeld ⊢
  clear hwd
  refine held_take (i := 0) (v := ?_) 86 rfl (by kernel_rfl) (by kernel_rfl) (by kernel_rfl) (fun _ _ _ h => h) rfl (by assumption) (Or.inl ⟨by rfl, ?_⟩) ?_
  rotate_left
  · intro w hSw; go_simp; (try with_reducible rfl)
  simp only [List.set_cons_zero, List.set_cons_succ]
  refine held_take (i := 2) (v := ?_) 88 rfl (by kernel_rfl) (by kernel_rfl) (by kernel_rfl) (fun _ _ _ h => h) rfl (by assumption) (Or.inl ⟨by rfl, ?_⟩) ?_
  rotate_left
  · intro w hSw; go_simp; (try with_reducible rfl)
  simp only [List.set_cons_zero, List.set_cons_succ]
  refine held_take (i := 3) (v := ?_) 89 rfl (by kernel_rfl) (by kernel_rfl) (by kernel_rfl) (fun _ _ _ h => h) rfl (by assumption) (Or.inl ⟨by rfl, ?_⟩) ?_
  rotate_left
  · intro w hSw; go_simp; (try with_reducible rfl)
  simp only [List.set_cons_zero, List.set_cons_succ]
  refine held_take (i := 4) (v := ?_) 90 rfl (by kernel_rfl) (by kernel_rfl) (by kernel_rfl) (fun _ _ _ h => h) rfl (by assumption) (Or.inl ⟨by rfl, ?_⟩) ?_
  rotate_left
  · intro w hSw; go_simp; (try with_reducible rfl)
  simp only [List.set_cons_zero, List.set_cons_succ]
  refine wpAnyH_ready (rs := [1]) (by kernel_rfl) (by simp) ?_
  refine (AllReadyH.cons rfl (fun K hK => ?_) AllReadyH.nil)
  go_simp
  refine (rroot_any n _ c L _ (hL.below hHeld) HS.out (by omega)).mono ?_
  rintro e w1x ⟨v1, rfl, ho1, hb⟩
  have hbt := HB.trans hHeld hb
  have hL := hL.below hbt
  have hF := hF.below hbt
  have hLq := hLq.below hbt
  have hLh := hLh.below hbt
  have hPq := hPq.below hbt
  have hPh := hPh.below hbt
  have hE := hE.step hbt
  obtain ⟨ra, rc, rfl, hR⟩ := ho1.bsn (n := 32) (mroot_length _)
  clear ho1
  go_wp2_with fail
  refine hK.out _ _ hbt (fun _ => held_next hbt (fun hHeld2 => ?_))
  clear hK hHeld hb hbt K
  have hHeld := hHeld2
  clear hHeld2
  refine wpAnyH_ready (rs := [5]) (by kernel_rfl) (by simp) ?_
  refine (AllReadyH.cons rfl (fun K hK => ?_) AllReadyH.nil)
  go_simp
  refine (rroot_any M _ c (L.take M) _ ((hL.below hHeld).take (by omega)) (fun x hx => HS.out x (List.mem_of_mem_take hx)) (by omega)).mono ?_
  rintro e w2x ⟨v4, rfl, ho4, hb⟩
  have hbt := HB.trans hHeld hb
  have hL := hL.below hbt
  have hF := hF.below hbt
  have hLq := hLq.below hbt
  have hLh := hLh.below hbt
  have hPq := hPq.below hbt
  have hPh := hPh.below hbt
  have hE := hE.step hbt
  have hR := hR.below hbt
  obtain ⟨sa, sc, rfl, hS⟩ := ho4.bsn (n := 32) (mroot_length _)
  clear ho4
  go_wp2_with fail
  refine hK.out _ _ hbt (fun _ => held_next hbt (fun hHeld2 => ?_))
  clear hK hHeld hb hbt K
  have hHeld := hHeld2
  clear hHeld2
  refine held_take (i := 6) (v := ?_) 22 rfl (by kernel_rfl) (by kernel_rfl) (by kernel_rfl) (fun _ _ _ h => h) rfl (by assumption) (Or.inl ⟨by rfl, ?_⟩) ?_
  rotate_left
  · intro w hSw; go_simp; (try with_reducible rfl)
  simp only [List.set_cons_zero, List.set_cons_succ]
  refine held_take (i := 7) (v := ?_) 23 rfl (by kernel_rfl) (by kernel_rfl) (by kernel_rfl) (fun _ _ _ h => h) rfl (by assumption) (Or.inl ⟨by rfl, ?_⟩) ?_
  rotate_left
  · intro w hSw; go_simp; (try with_reducible rfl)
  simp only [List.set_cons_zero, List.set_cons_succ]
  refine wpAnyH_done (by kernel_rfl) ?_ _
  have hT : TSt H w a n c L fa fm fc FF ra rc (mroot L) sa sc (mroot (L.take M)) qa dq qc (mpath L I) ha dh hc (mgrown L M true) _ := ⟨hL.below hHeld, hF.below hHeld, hR.below hHeld, hS.below hHeld, hLq.below hHeld, hLh.below hHeld, hE.step hHeld⟩
  replace hPq := hPq.below hHeld
  replace hPh := hPh.below hHeld
  have HL32 := Lib.hid (And.intro (mpath_32 L I) (mgrown_32 L M true))
  clear hL hF hR hS hLq hLh hE hHeld
  have hRl := mroot_length L
  have hSl := mroot_length (L.take M)
  generalize mroot L = R at *
  generalize mroot (L.take M) = S at *
  go_upto_if 94 with fail
  go_cut [24] (fun _ wx => ∃ Z, Z.length = dq ∧ (∀ p ∈ Z, p.length = 32) ∧ TSt H w a n c L fa fm fc FF ra rc R sa sc S qa dq qc Z ha dh hc (mgrown L M true) wx ∧ Place wx ha dh w5.heap.size w6.heap.size ∧ Place wx qa dq w4.heap.size w5.heap.size)
  case first =>
    rcases Nat.eq_zero_or_pos dq with h0 | h0
    · have d0 : (dq : Int) = 0 := by omega
      have d1 : ¬ (0 : Int) < (dq : Int) := by omega
      have d2 : decide ((0 : Int) < (dq : Int)) = false := by simp [d0]
      clear h0
      go_wp2_with fail
      go_meet
      exact ⟨_, HSZ.out.1.symm, HL32.out.1, hT, hPh, hPq⟩
    · obtain ⟨g, hga, hg1, hg2, hg3⟩ := hPq h0
      subst hga
      have d1 : (0 : Int) < (dq : Int) := by omega
      obtain ⟨D, hD⟩ : ∃ D, dq = D + 1 := ⟨dq - 1, by omega⟩
      have i1 : IntKind.i64.wrap ((dq : Int) - 1) = (D : Int) := by rw [IntWalk.i64_in _ (by omega)]; omega
      have hKb := within_bd at_ 0 (D : Int) (by omega)
      have HWk := Lib.hid (fun w => within_any at_ 0 (D : Int) w (by omega) (by omega) (by omega))
      generalize within at_ 0 (D : Int) = K' at *
      obtain ⟨k, rfl⟩ : ∃ k : Nat, K' = (k : Int) := ⟨K'.toNat, by omega⟩
      have hJb := within_bd at_ 0 31 (by decide)
      have HWj := Lib.hid (fun w => within_any at_ 0 31 w (by decide) (by decide) (by decide))
      generalize within at_ 0 31 = J' at *
      obtain ⟨j, rfl⟩ : ∃ j : Nat, J' = (j : Int) := ⟨J'.toNat, by omega⟩
      have hk0 : (0 : Int) ≤ (k : Int) := by omega
      have hk1 : (k : Int) < (dq : Int) := by omega
      have hj0 : (0 : Int) ≤ (j : Int) := by omega
      have hj1 : (j : Int) < 32 := by omega
      have hkd : k < dq := by omega
      clear hD hKb hJb
      obtain ⟨b', o', hbe, hbl, hrows⟩ := hT.2.2.2.2.1.at h0
      have hbb : g = b' ∧ 0 = o' := by injection hbe with hbe; injection hbe with e1 e2 _; exact ⟨e1, e2⟩
      obtain ⟨rfl, rfl⟩ := hbb
      obtain ⟨a', m', c', hcell, hrow⟩ := hrows k (by omega)
      rw [Nat.zero_add] at hcell
      clear hrows hbe
      obtain ⟨row, hrw⟩ : ∃ row, row = (mpath L I).getD k [] := ⟨_, rfl⟩
      have hr32 : row.length = 32 := by
        rw [hrw, List.getD_eq_getElem?_getD, List.getElem?_eq_getElem (by have := HSZ.out.1; omega)]
        exact HL32.out.1 _ (List.getElem_mem ..)
      rw [← hrw] at hrow
      have HRW := Lib.hid hrw
      clear hrw
      obtain rfl : 32 = m' := by rw [← hrow.1, hr32]
      have HT := Lib.hid hT
      obtain ⟨W0, hW0⟩ : ∃ W0, W0 = w2x := ⟨_, rfl⟩
      clear hT
      rw [← hW0] at HT hcell hrow hg3 hbl hPh hPq
      go_upto_region 17 with fail
      refine (HWk.out _).mono ?_
      rintro e wq ⟨rfl, rfl⟩
      go_upto_region 17 with fail
      rw [← hW0]
      clear hW0 HWk
      have hb0 := (Below.refl W0.heap.size W0).alloc (Nat.le_refl _) (.cells #[] TB)
      have hcell1 := (hb0.cell (p := ⟨g, k, none⟩) hbl).trans hcell
      have hrow1 := hrow.below hb0
      have hO0 : Own (W0.alloc (.cells #[] TB)) W0.heap.size (.slice (some ⟨W0.heap.size, 0, none⟩) 0 0) [] := Own.of_row (Row.made W0 #[] 0 0 [] rfl rfl (Nat.le_refl _) (by simp [maxLen]) rfl) (Nat.le_refl _)
      have hBw : W0.heap.size ≤ (W0.alloc (.cells #[] TB)).heap.size := by simp
      go_wp2_with (at_builtin; refine wpList_append_at rfl _ _ rfl W0.heap.size _ [] rfl hO0 a' 32 c' row rfl hrow1 (by simp) hBw ?_)
      intro v' W1 h1 h2 h3
      have hbW : Below W0.heap.size W0 W1 := ((Ext.refl W0).alloc (.cells #[] TB)).grown h2 (fun q hq => by simp [Value.ownBlock] at hq; omega) |>.1
      (try rw [List.nil_append] at h1)
      rcases h1.parts with ⟨_, h4⟩ | ⟨gN, cN, rfl, hgN, hRow⟩
      · rw [h4] at hr32; simp at hr32
      (try rw [hr32])
      have hp := (hbW.cell (p := ⟨g, k, none⟩) hbl).trans hcell
      have hfz := (hg3.below hbW).free k
      have hjr : j < row.length := by rw [hr32]; omega
      have hgne : gN ≠ g := by omega
      have hx0 := hRow.cell j hjr
      obtain ⟨x, hxe⟩ : ∃ x, x = row[j] := ⟨_, rfl⟩
      rw [← hxe] at hx0
      clear hxe
      have hR1 := hRow.setOther (a := ⟨g, k, none⟩) (by show gN ≠ g; exact hgne) (.slice (some ⟨gN, 0, none⟩) 32 cN)
      have hc1 : (W1.setCell ⟨g, k, none⟩ (.slice (some ⟨gN, 0, none⟩) 32 cN)).cell? ⟨g, k, none⟩ = some (.slice (some ⟨gN, 0, none⟩) 32 cN) := World.cell?_setCell_same _ _ _ hp
      have hx1 : (W1.setCell ⟨g, k, none⟩ (.slice (some ⟨gN, 0, none⟩) 32 cN)).cell? ⟨gN, j, none⟩ = some (.int .u8 (x.toNat : Int)) := (World.cell?_setCell_far _ _ _ _ (by show g ≠ gN; exact fun e => hgne e.symm)).trans hx0
      have hf1 := hR1.frozen j
      have hxo := u8_xor_nat x.toNat t.toNat (UInt8.toNat_lt _) (UInt8.toNat_lt _)
      have HF := Lib.hid (And.intro hbW (And.intro hp (And.intro hRow (And.intro hgN (And.intro hjr hbl)))))
      clear h1 h2 h3 hO0 hrow1 hcell1 hb0 hbW hRow hx0 hrow hcell hBw hR1
      go_upto_region 18 with fail
      clear hp hfz
      generalize hWB : W1.setCell ⟨g, k, none⟩ (.slice (some ⟨gN, 0, none⟩) 32 cN) = WB at *
      have HWB := Lib.hid hWB
      clear hWB
      refine mt18 WB g k gN j cN dq qc x t at_ HWj hk0 hk1 hj0 hj1 hc1 hx1 hf1 hxo _ _ _ _ _ _ _ _ _ _ _ _ _ _ _ _ _ _ _ _ _ _ _ _ _ _ _ _ _ _ _ _ _ _ _ _ _ _ _ _ _ _ _ _ _ _ _ _ _ _ _ _ _ _ _ _ _ _ _ _ _ _ _ _ _ _ _ _ _ _ _ _ _ _ _ _ _ _ _ _ _ _ _ _ _ _ _ _ _ _ _ _ _ _ _ _ _ _ _ _ _ _ _ _ _ _ _ _ _ _ _ _ _ _ _ _ _ _ _ _ _ _ _ _ _ _ _ _ _ _ _ _ _ _ _ _ _ _ _ _ _ _ _ _ _ _ _ _ _ _ _ _ _ _ _ _ _ _ _ _ _ _ _ _ _ _ _ _ _ _ _ _ _ _ _ _ _ _ _ _ _ _ _ _ _ _ _ _ _ _ _ _ _ _ _ _ _ _ _ _ _ _ _ _ _ _ _ _ _ _ _ _ _ _ _ _ _ _ _ _ _ _ _ _ _ _ _ _ _ _ _ _ _ _ _ _ _ _ _ _ _ _ _ _ _ _ _ _ _ _ _ _ _ _ _ _ _ _ _ _ _ _ _ _ _ _ _ _ _ _ _ _ _ _ _ _ _ _ _ _ _ _ _ _ _ _ _ _ _ _ _ _ _ _ _ _ _ _ _ _ (fun _ _ _ _ _ h => h) ?_
      intro u109 u110 u111 u112 u113 u114 u115 u116 u117 u118 u119
      go_wp2_with fail
      go_meet
      obtain ⟨hbW, hp, hRow, hgN, hjr, hbl⟩ := HF.out
      have e2 : ((WB.setCell ⟨gN, j, none⟩ (.int .u8 ((x.toNat ^^^ t.toNat : Nat) : Int))).drew).heap = ((W1.setCell ⟨g, k, none⟩ (.slice (some ⟨gN, 0, none⟩) row.length cN)).setCell ⟨gN, j, none⟩ (bv (x ^^^ t))).heap := by
        rw [hr32, HWB.out]; unfold bv; rw [UInt8.toNat_xor]; rfl
      have hEz : Ext H w ((WB.setCell ⟨gN, j, none⟩ (.int .u8 ((x.toNat ^^^ t.toNat : Nat) : Int))).drew) := by
        rw [← HWB.out]
        have h9 := HT.out.2.2.2.2.2.2
        have h8 := HS45.out
        exact (((h9.step hbW).setCell (p := ⟨g, k, none⟩) (by show H ≤ g; omega) _).setCell (p := ⟨gN, j, none⟩) (by show H ≤ gN; have := h9.2; omega) _).drew
      have hln := fun b off hb => (show b ≠ g by have h1 := HLB.out b off hb; have h2 := HS45.out; omega)
      have hho : dh = 0 ∨ ∀ b off, ha = some ⟨b, off, none⟩ → b ≠ g := by
        rcases Nat.eq_zero_or_pos dh with h1 | h1
        · exact .inl h1
        · obtain ⟨g', e1, e3, e4, _⟩ := hPh h1
          exact .inr fun b off hb => by rw [e1] at hb; injection hb with hb; injection hb with hb _ _; omega
      have hTn := TSt.turnQ (t := x ^^^ t) HT.out hbW hkd hp hRow hgN hbl hln hho e2 hEz
      have hPn := hPh.turned hbW e2
      have hPn2 := hPq.turned hbW e2
      have h32 := set_32 (k := k) (j := j) (t := x ^^^ t) HL32.out.1 hr32
      have hlen := HSZ.out.1
      refine ⟨_, ?_, h32, hTn, hPn, hPn2⟩
      rw [List.length_set]
      exact hlen.symm
  case rest =>
  obtain ⟨Q1, hQ1l, hQ1, hT, hPh, hPq⟩ := hcut
  as_aux_lemma =>
  go_upto_if 122 with fail
  go_cut [25] (fun _ wx => ∃ Z, Z.length = dh ∧ (∀ p ∈ Z, p.length = 32) ∧ TSt H w a n c L fa fm fc FF ra rc R sa sc S qa dq qc Q1 ha dh hc Z wx ∧ Place wx qa dq w4.heap.size w5.heap.size ∧ Place wx ha dh w5.heap.size w6.heap.size)
  case first =>
    rcases Nat.eq_zero_or_pos dh with h0 | h0
    · have d0 : (dh : Int) = 0 := by omega
      have d1 : ¬ (0 : Int) < (dh : Int) := by omega
      have d2 : decide ((0 : Int) < (dh : Int)) = false := by simp [d0]
      clear h0
      go_wp2_with fail
      go_meet
      exact ⟨_, HSZ.out.2.symm, HL32.out.2, hT, hPq, hPh⟩
    · obtain ⟨g, hga, hg1, hg2, hg3⟩ := hPh h0
      subst hga
      have d1 : (0 : Int) < (dh : Int) := by omega
      obtain ⟨D, hD⟩ : ∃ D, dh = D + 1 := ⟨dh - 1, by omega⟩
      have i1 : IntKind.i64.wrap ((dh : Int) - 1) = (D : Int) := by rw [IntWalk.i64_in _ (by omega)]; omega
      have hKb := within_bd at_ 0 (D : Int) (by omega)
      have HWk := Lib.hid (fun w => within_any at_ 0 (D : Int) w (by omega) (by omega) (by omega))
      generalize within at_ 0 (D : Int) = K' at *
      obtain ⟨k, rfl⟩ : ∃ k : Nat, K' = (k : Int) := ⟨K'.toNat, by omega⟩
      have hJb := within_bd at_ 0 31 (by decide)
      have HWj := Lib.hid (fun w => within_any at_ 0 31 w (by decide) (by decide) (by decide))
      generalize within at_ 0 31 = J' at *
      obtain ⟨j, rfl⟩ : ∃ j : Nat, J' = (j : Int) := ⟨J'.toNat, by omega⟩
      have hk0 : (0 : Int) ≤ (k : Int) := by omega
      have hk1 : (k : Int) < (dh : Int) := by omega
      have hj0 : (0 : Int) ≤ (j : Int) := by omega
      have hj1 : (j : Int) < 32 := by omega
      have hkd : k < dh := by omega
      clear hD hKb hJb
      obtain ⟨b', o', hbe, hbl, hrows⟩ := hT.2.2.2.2.2.1.at h0
      have hbb : g = b' ∧ 0 = o' := by injection hbe with hbe; injection hbe with e1 e2 _; exact ⟨e1, e2⟩
      obtain ⟨rfl, rfl⟩ := hbb
      obtain ⟨a', m', c', hcell, hrow⟩ := hrows k (by omega)
      rw [Nat.zero_add] at hcell
      clear hrows hbe
      obtain ⟨row, hrw⟩ : ∃ row, row = (mgrown L M true).getD k [] := ⟨_, rfl⟩
      have hr32 : row.length = 32 := by
        rw [hrw, List.getD_eq_getElem?_getD, List.getElem?_eq_getElem (by have := HSZ.out.2; omega)]
        exact HL32.out.2 _ (List.getElem_mem ..)
      rw [← hrw] at hrow
      have HRW := Lib.hid hrw
      clear hrw
      obtain rfl : 32 = m' := by rw [← hrow.1, hr32]
      have HT := Lib.hid hT
      obtain ⟨W0, hW0⟩ : ∃ W0, W0 = wc := ⟨_, rfl⟩
      clear hT
      rw [← hW0] at HT hcell hrow hg3 hbl hPq hPh
      go_upto_region 21 with fail
      refine (HWk.out _).mono ?_
      rintro e wq ⟨rfl, rfl⟩
      go_upto_region 21 with fail
      rw [← hW0]
      clear hW0 HWk
      have hb0 := (Below.refl W0.heap.size W0).alloc (Nat.le_refl _) (.cells #[] TB)
      have hcell1 := (hb0.cell (p := ⟨g, k, none⟩) hbl).trans hcell
      have hrow1 := hrow.below hb0
      have hO0 : Own (W0.alloc (.cells #[] TB)) W0.heap.size (.slice (some ⟨W0.heap.size, 0, none⟩) 0 0) [] := Own.of_row (Row.made W0 #[] 0 0 [] rfl rfl (Nat.le_refl _) (by simp [maxLen]) rfl) (Nat.le_refl _)
      have hBw : W0.heap.size ≤ (W0.alloc (.cells #[] TB)).heap.size := by simp
      go_wp2_with (at_builtin; refine wpList_append_at rfl _ _ rfl W0.heap.size _ [] rfl hO0 a' 32 c' row rfl hrow1 (by simp) hBw ?_)
      intro v' W1 h1 h2 h3
      have hbW : Below W0.heap.size W0 W1 := ((Ext.refl W0).alloc (.cells #[] TB)).grown h2 (fun q hq => by simp [Value.ownBlock] at hq; omega) |>.1
      (try rw [List.nil_append] at h1)
      rcases h1.parts with ⟨_, h4⟩ | ⟨gN, cN, rfl, hgN, hRow⟩
      · rw [h4] at hr32; simp at hr32
      (try rw [hr32])
      have hp := (hbW.cell (p := ⟨g, k, none⟩) hbl).trans hcell
      have hfz := (hg3.below hbW).free k
      have hjr : j < row.length := by rw [hr32]; omega
      have hgne : gN ≠ g := by omega
      have hx0 := hRow.cell j hjr
      obtain ⟨x, hxe⟩ : ∃ x, x = row[j] := ⟨_, rfl⟩
      rw [← hxe] at hx0
      clear hxe
      have hR1 := hRow.setOther (a := ⟨g, k, none⟩) (by show gN ≠ g; exact hgne) (.slice (some ⟨gN, 0, none⟩) 32 cN)
      have hc1 : (W1.setCell ⟨g, k, none⟩ (.slice (some ⟨gN, 0, none⟩) 32 cN)).cell? ⟨g, k, none⟩ = some (.slice (some ⟨gN, 0, none⟩) 32 cN) := World.cell?_setCell_same _ _ _ hp
      have hx1 : (W1.setCell ⟨g, k, none⟩ (.slice (some ⟨gN, 0, none⟩) 32 cN)).cell? ⟨gN, j, none⟩ = some (.int .u8 (x.toNat : Int)) := (World.cell?_setCell_far _ _ _ _ (by show g ≠ gN; exact fun e => hgne e.symm)).trans hx0
      have hf1 := hR1.frozen j
      have hxo := u8_xor_nat x.toNat t.toNat (UInt8.toNat_lt _) (UInt8.toNat_lt _)
      have HF := Lib.hid (And.intro hbW (And.intro hp (And.intro hRow (And.intro hgN (And.intro hjr hbl)))))
      clear h1 h2 h3 hO0 hrow1 hcell1 hb0 hbW hRow hx0 hrow hcell hBw hR1
      go_upto_region 22 with fail
      clear hp hfz
      generalize hWB : W1.setCell ⟨g, k, none⟩ (.slice (some ⟨gN, 0, none⟩) 32 cN) = WB at *
      have HWB := Lib.hid hWB
      clear hWB
      refine mt22 WB g k gN j cN dh hc x t at_ HWj hk0 hk1 hj0 hj1 hc1 hx1 hf1 hxo _ _ _ _ _ _ _ _ _ _ _ _ _ _ _ _ _ _ _ _ _ _ _ _ _ _ _ _ _ _ _ _ _ _ _ _ _ _ _ _ _ _ _ _ _ _ _ _ _ _ _ _ _ _ _ _ _ _ _ _ _ _ _ _ _ _ _ _ _ _ _ _ _ _ _ _ _ _ _ _ _ _ _ _ _ _ _ _ _ _ _ _ _ _ _ _ _ _ _ _ _ _ _ _ _ _ _ _ _ _ _ _ _ _ _ _ _ _ _ _ _ _ _ _ _ _ _ _ _ _ _ _ _ _ _ _ _ _ _ _ _ _ _ _ _ _ _ _ _ _ _ _ _ _ _ _ _ _ _ _ _ _ _ _ _ _ _ _ _ _ _ _ _ _ _ _ _ _ _ _ _ _ _ _ _ _ _ _ _ _ _ _ _ _ _ _ _ _ _ _ _ _ _ _ _ _ _ _ _ _ _ _ _ _ _ _ _ _ _ _ _ _ _ _ _ _ _ _ _ _ _ _ _ _ _ _ _ _ _ _ _ _ _ _ _ _ _ _ _ _ _ _ _ _ _ _ _ _ _ _ _ _ _ _ _ _ _ _ _ _ _ _ _ _ _ _ _ _ _ _ _ _ _ _ _ _ _ _ _ _ _ _ _ _ _ _ _ _ _ _ (fun _ _ _ _ _ h => h) ?_
      intro u137 u138 u139 u140 u141 u142 u143 u144 u145 u146 u147
      go_wp2_with fail
      go_meet
      obtain ⟨hbW, hp, hRow, hgN, hjr, hbl⟩ := HF.out
      have e2 : ((WB.setCell ⟨gN, j, none⟩ (.int .u8 ((x.toNat ^^^ t.toNat : Nat) : Int))).drew).heap = ((W1.setCell ⟨g, k, none⟩ (.slice (some ⟨gN, 0, none⟩) row.length cN)).setCell ⟨gN, j, none⟩ (bv (x ^^^ t))).heap := by
        rw [hr32, HWB.out]; unfold bv; rw [UInt8.toNat_xor]; rfl
      have hEz : Ext H w ((WB.setCell ⟨gN, j, none⟩ (.int .u8 ((x.toNat ^^^ t.toNat : Nat) : Int))).drew) := by
        rw [← HWB.out]
        have h9 := HT.out.2.2.2.2.2.2
        have h8 := HS45.out
        exact (((h9.step hbW).setCell (p := ⟨g, k, none⟩) (by show H ≤ g; omega) _).setCell (p := ⟨gN, j, none⟩) (by show H ≤ gN; have := h9.2; omega) _).drew
      have hln := fun b off hb => (show b ≠ g by have h1 := HLB.out b off hb; have h2 := HS45.out; omega)
      have hho : dq = 0 ∨ ∀ b off, qa = some ⟨b, off, none⟩ → b ≠ g := by
        rcases Nat.eq_zero_or_pos dq with h1 | h1
        · exact .inl h1
        · obtain ⟨g', e1, e3, e4, _⟩ := hPq h1
          exact .inr fun b off hb => by rw [e1] at hb; injection hb with hb; injection hb with hb _ _; omega
      have hTn := TSt.turnH (t := x ^^^ t) HT.out hbW hkd hp hRow hgN hbl hln hho e2 hEz
      have hPn := hPq.turned hbW e2
      have hPn2 := hPh.turned hbW e2
      have h32 := set_32 (k := k) (j := j) (t := x ^^^ t) HL32.out.2 hr32
      have hlen := HSZ.out.2
      refine ⟨_, ?_, h32, hTn, hPn, hPn2⟩
      rw [List.length_set]
      exact hlen.symm
  case rest =>
  obtain ⟨G1, hG1l, hG1, hT, hPq, hPh⟩ := hcut
  as_aux_lemma =>
  have hnb := within_bd x0 0 45 (by decide)
  have HWn := Lib.hid (fun w => within_any x0 0 45 w (by decide) (by decide) (by decide))
  generalize within x0 0 45 = X' at *
  have i2 : IntKind.i64.wrap (X' - 2) = X' - 2 := IntWalk.i64_in _ (by omega)
  have hnn : X' - 2 ≤ 1000 := by omega
  have HT := Lib.hid hT
  have HQ1 := Lib.hid (show ∀ p ∈ Q1, p.length ≤ 1000 from fun p hp => by rw [hQ1 p hp]; decide)
  have HG1 := Lib.hid (show ∀ p ∈ G1, p.length ≤ 1000 from fun p hp => by rw [hG1 p hp]; decide)
  clear hT hQ1 hG1
  go_wp2_with fail
  refine (HWn.out _).mono ?_
  rintro e wq ⟨rfl, rfl⟩
  go_upto_region 24 with fail
  clear HWn i2
  obtain ⟨b, off, al, ml, cl, rfl, hCl, hBl⟩ := HT.out.1.row hIn
  have hml : ml ≤ 1000 := by rw [← hBl.1]; exact getD_short HS.out I
  refine mt24 w _ H n I M b off c fm fc rc sc dq qc dh hc ml cl fa ra sa qa ha al L Q1 G1 FF R S (X' - 2) hIn hn hml (by omega) (by omega) (by omega) hnn HQ1 HG1 HT.out.1 hCl hBl HT.out.2.1 HT.out.2.2.1 HT.out.2.2.2.1 HT.out.2.2.2.2.1 HT.out.2.2.2.2.2.1 HT.out.2.2.2.2.2.2 _ _ _ _ _ _ _ _ _ _ _ _ _ _ _ _ _ _ _ _ _ _ _ _ _ _ _ _ _ _ _ _ _ _ _ _ _ _ _ _ _ _ _ _ _ _ _ _ _ _ _ _ _ _ _ _ _ _ _ _ _ _ _ _ _ _ _ _ _ _ _ _ _ _ _ _ _ _ _ _ _ _ _ _ _ _ _ _ _ _ _ _ _ _ _ _ _ _ _ _ _ _ _ _ _ _ _ _ _ _ _ _ _ _ _ _ _ _ _ _ _ _ _ _ _ _ _ _ _ _ _ _ _ _ _ _ _ _ _ _ _ _ _ _ _ _ _ _ _ _ _ _ _ _ _ _ _ _ _ _ _ _ _ _ _ _ _ _ _ _ _ _ _ _ _ _ _ _ _ _ _ _ _ _ _ _ _ _ _ _ _ _ _ _ _ _ _ _ _ _ _ _ _ _ _ _ _ _ _ _ _ _ _ _ _ _ _ _ _ _ _ _ _ _ _ _ _ _ _ _ _ _ _ _ _ _ _ _ _ _ _ _ _ _ _ _ _ _ _ _ _ _ _ _ _ _ _ _ _ _ _ _ _ _ _ _ _ _ _ _ _ _ _ _ _ _ _ _ _ _ _ _ _ _ _ _ _ _ _ _ _ _ _ _ _ (fun _ _ _ _ _ h => h) ?rest24
  case rest24 =>
    intro w9 hE9 u151 u152 u153 u154 u155 u156 u157 u158 u159 u160 u161 u162 u163 u164 u165 u166 u167 u168 u169 u170 u171 u172 u173 u174 u175 u176 u177 u178 u179 u180 u181 u182 u183 u184 u185 u186 u187 u188 u189 u190 u191 u192 u193 u194 u195 u196 u197 u198 u199 u200 u201 u202 u203 u204 u205 u206 u207 u208 u209 u210 u211 u212 u213 u214 u215 u216 u217 u218 u219 u220 u221 u222 u223 u224 u225 u226 u227 u228 u229 u230 u231 u232 u233 u234 u235 u236 u237 u238 u239 u240 u241 u242 u243 u244 u245 u246 u247 u248 u249 u250 u251 u252 u253 u254 u255 u256 u257 u258 u259 u260 u261 u262 u263 u264 u265 u266 u267 u268 u269 u270 u271 u272 u273 u274 u275 u276 u277 u278 u279 u280 u281 u282 u283 u284 u285 u286 u287 u288 u289 u290 u291 u292 u293 u294 u295 u296 u297 u298 u299 u300 u301
    go_wp2_with fail
    go_ret
    exact ⟨rfl, hE9.1⟩
theorem MerkleTells_walk (v0 v1 v2 v3 v4 v5 v6 : Value) (w : World) (h0 : Arg Try.prog w 22 v0) (h1 : Arg Try.prog w 3 v1) (h2 : Arg Try.prog w 3 v2) (h3 : Arg Try.prog w 24 v3) (h4 : Arg Try.prog w 3 v4) (h5 : Arg Try.prog w 5 v5) (h6 : Arg Try.prog w 3 v6) :
    Calls Try.prog 6 #[v0, v1, v2, v3, v4, v5, v6] w fun e w' => e = .returned (.bool true) ∧ Below w.heap.size w w' := by
  obtain ⟨a0, len0, cap0, ls0, rfl, hL0⟩ := h0.lists
  obtain ⟨i0, rfl, _⟩ := h1.int Try.underlying3
  obtain ⟨m0, rfl, _⟩ := h2.int Try.underlying3
  obtain ⟨fa, fl, fc, fs, rfl, hF⟩ := h3.bytes Try.underlying24 Try.underlying5 (by kernel_rfl)
  obtain ⟨x0, rfl, _⟩ := h4.int Try.underlying3
  obtain ⟨t, rfl, wt⟩ := h5.int Try.underlying5
  obtain ⟨at_, rfl, _⟩ := h6.int Try.underlying3
  rw [← byteOf_toNat wt]
  exact mtells_any a0 len0 cap0 ls0 i0 m0 fa fl fc fs x0 (byteOf t) at_ w hL0 hF
end Go.Proofs.Ytaomkjnkfkahhaa
