/- The walk of MerkleChain. -/
import Derived.Test.YtaomkjnkfkahhaaMerkM
import Derived.Test.YtaomkjnkfkahhaaHeld
namespace Go.Proofs.Ytaomkjnkfkahhaa
open Go.RowKit

set_option maxHeartbeats 4000000 in
set_option maxRecDepth 100000 in
theorem MerkleChain_walk (v0 : Value) (w : World) (h0 : Arg Try.prog w 22 v0) :
    Calls Try.prog 8 #[v0] w fun e w' => e = .returned (.bool true) ∧ Below w.heap.size w w' := by
  obtain ⟨a0, len0, cap0, ls0, rfl, hL0⟩ := h0.lists
  clear h0
  have hE := Ext.refl w
  obtain ⟨H, hH⟩ : ∃ H, H = w.heap.size := ⟨_, rfl⟩
  rw [← hH] at hE ⊢
  go_enter Try.func8, Try.ntmps8
  go_wp2_with fail
  refine (few_any a0 len0 cap0 ls0 w hL0).mono ?_
  rintro e w1 ⟨v, rfl, hO, hb⟩
  have hE := hE.step hb
  obtain ⟨a, c, rfl, hL⟩ := hO.ll (n := min len0 40) (by rw [fewL_length, hL0.1])
  have hsh : ∀ x ∈ fewL ls0, x.length ≤ 1000 := fun x hx => Nat.le_trans (fewL_short ls0 x hx) (by omega)
  have hn : min len0 40 ≤ 40 := Nat.min_le_right _ _
  have hll := hL.1
  generalize fewL ls0 = L at *
  generalize min len0 40 = n at *
  have HS := Lib.hid hsh
  have HN := Lib.hid hll
  clear hO hb hL0 hsh hll hH
  go_wp2_with fail
  refine (root_any n a c L w1 hL HS.out (by omega)).mono ?_
  rintro e w2 ⟨v, rfl, hO, hb⟩
  have hL := hL.below hb
  have hE := hE.step hb
  obtain ⟨ar, cr, rfl, hR⟩ := hO.bsn (n := 32) (mroot_length _)
  have hcap := hL.2.1
  clear hO hb
  go_upto_block 0 with fail
  go_cut [5] (fun _ wr => Ext H w wr)
  case first =>
    go_wp2_with fail
    go_loopw [5] (fun i wr => ∃ m : Nat, i = .int .i64 (m : Int) ∧ 1 ≤ m ∧ m ≤ n + 1 ∧ LL wr a n c L ∧ Bs wr ar 32 cr (mroot L) ∧ Ext H w wr) (fun i _ => 42 - (intOf i).toNat)
    case atStart => exact ⟨1, rfl, by omega, by omega, hL, hR, hE⟩
    case round =>
      obtain ⟨m, rfl, hm1, hm2, hL1, hR1, hE1⟩ := hrel
      clear hL hR hE
      by_cases hle : m ≤ n
      · have e1 : (m : Int) ≤ (n : Int) := by omega
        have e2 : (0 : Int) ≤ (m : Int) := by omega
        have e3 : (m : Int) ≤ (c : Int) := by omega
        have e4 : m ≤ c := by omega
        go_wp2_with fail
        refine (mgrown_yes n a c L m wr hL1 HS.out (by omega) hm1 hle).mono ?_
        rintro e w3 ⟨v, rfl, hG, hb⟩
        have hL := hL1.below hb
        have hR := hR1.below hb
        have hE := hE1.step hb
        have hd := gdep_le 6 m n true (by omega)
        obtain ⟨ag, cg, rfl, hGL⟩ := hG.ll (n := gdep m n true) (by rw [mgrown_length, HN.out])
        have HC1 := Lib.hid (mcheckG_grown L m n HN.out hm1 hle)
        have HGS := Lib.hid (mgrown_shorts L m true)
        generalize gdep m n true = lg at *
        generalize mgrown L m true = gs at *
        clear hG hb hL1 hR1 hE1
        go_wp2_with fail
        refine (root_any m _ c (L.take m) w3 (hL.take hle) (take_short HS.out m) (by omega)).mono ?_
        rintro e w4 ⟨v, rfl, hO, hb⟩
        have hL := hL.below hb
        have hR := hR.below hb
        have hE := hE.step hb
        have hGL := hGL.below hb
        obtain ⟨ao, co, rfl, hOl⟩ := hO.bsn (n := 32) (mroot_length _)
        clear hb hO
        go_wp2_with fail
        refine (checkG_eq _ _ _ _ _ _ _ _ (m : Int) (n : Int) _ _ _ _ true _ hOl hR hGL HGS.out (by omega) (by omega) (by omega) HC1.out).mono ?_
        rintro e w5 ⟨rfl, hb⟩
        have hL := hL.below hb
        have hR := hR.below hb
        have hE := hE.step hb
        clear hb hOl hGL HC1 HGS hd
        by_cases hmn : m = n
        · have g1 : ((m : Int) == (n : Int)) = true := by rw [beq_iff_eq]; omega
          clear hL hR
          go_wp2_with fail
          go_meet
          exact hE
        · have g1 : ((m : Int) == (n : Int)) = false := by rw [beq_eq_false_iff_ne]; omega
          have i1 : IntKind.i64.wrap ((m : Int) + 1) = ((m + 1 : Nat) : Int) := by rw [IntWalk.i64_in _ (by omega)]; omega
          obtain ⟨M, hM⟩ : ∃ M, M = m + 1 := ⟨_, rfl⟩
          have hT2 := hL.take (k := m + 1) (by omega)
          have HT2 := Lib.hid hT2
          rw [← hM] at i1
          have f1 : (0 : Int) ≤ (M : Int) := by omega
          have f2 : (M : Int) ≤ (c : Int) := by omega
          have f3 : M ≤ c := by omega
          have HM := Lib.hid hM
          have HGY := Lib.hid (mgrown_yes M a c (L.take M) m w5 (by rw [hM]; exact hT2) (take_short HS.out M) (by omega) hm1 (by omega))
          clear hT2 hM
          go_wp2_with fail
          refine HGY.out.mono ?_
          rintro e w6 ⟨v, rfl, hG, hb⟩
          have hL := hL.below hb
          have hR := hR.below hb
          have hE := hE.step hb
          have hd := gdep_le 6 m M true (by have := HM.out; omega)
          have HTL : Hid ((L.take M).length = M) := Lib.hid (by rw [List.length_take, HN.out]; have := HM.out; omega)
          obtain ⟨ah, ch, rfl, hHL⟩ := hG.ll (n := gdep m M true) (by rw [mgrown_length, HTL.out])
          have HC2 : Hid (mcheckG (mroot (L.take m)) (mroot (L.take M)) (m : Int) ((M : Nat) : Int) (mgrown (L.take M) m true) = true) := Lib.hid (by
            have h := mcheckG_grown (L.take M) m M HTL.out hm1 (by have := HM.out; omega)
            rw [List.take_take, Nat.min_eq_left (by have := HM.out; omega)] at h
            exact h)
          have HHS := Lib.hid (mgrown_shorts (L.take M) m true)
          generalize gdep m M true = lh at *
          generalize mgrown (L.take M) m true = hs at *
          clear hG hb HGY
          have hT1 := hL.take (k := m) (by omega)
          have hT2 : LL w6 a M c (L.take M) := hL.take (by have := HM.out; omega)
          have hM40 : M ≤ 41 := by have := HM.out; omega
          have hlh : lh ≤ 65 := by omega
          clear hd
          go_upto_region 11 with fail
          go_cut [72] (fun s wx => s = .bool false ∧ LL wx a n c L ∧ Bs wx ar 32 cr (mroot L) ∧ Ext H w wx)
          case first =>
            obtain ⟨wd, hwd⟩ : ∃ wd, wd = w6.drew := ⟨_, rfl⟩
            have hb : Below w6.heap.size w6 wd := by rw [hwd]; exact (Below.refl _ _).drew
            have hT1 := hT1.below hb
            have hT2 := hT2.below hb
            have hHL := hHL.below hb
            have hL := hL.below hb
            have hR := hR.below hb
            have hE := hE.step hb
            clear hb
            refine held_start (by kernel_rfl) (fun hHeld => ?_)
            rw [← hwd] at hHeld ⊢
            clear hwd
            refine held_take (i := 0) (v := ?_) 54 rfl (by kernel_rfl) (by kernel_rfl) (by kernel_rfl) (fun _ _ _ h => h) rfl (by assumption) (Or.inl ⟨by rfl, ?_⟩) ?_
            rotate_left
            · intro w hSw; go_simp; (try with_reducible rfl)
            simp only [List.set_cons_zero, List.set_cons_succ]
            refine held_take (i := 1) (v := ?_) 55 rfl (by kernel_rfl) (by kernel_rfl) (by kernel_rfl) (fun _ _ _ h => h) rfl (by assumption) (Or.inl ⟨by rfl, ?_⟩) ?_
            rotate_left
            · intro w hSw; go_simp; (try with_reducible rfl)
            simp only [List.set_cons_zero, List.set_cons_succ]
            refine held_take (i := 2) (v := ?_) 56 rfl (by kernel_rfl) (by kernel_rfl) (by kernel_rfl) (fun _ _ _ h => h) rfl (by assumption) (Or.inl ⟨by rfl, ?_⟩) ?_
            rotate_left
            · intro w hSw; go_simp; (try with_reducible rfl)
            simp only [List.set_cons_zero, List.set_cons_succ]
            refine held_take (i := 3) (v := ?_) 57 rfl (by kernel_rfl) (by kernel_rfl) (by kernel_rfl) (fun _ _ _ h => h) rfl (by assumption) (Or.inl ⟨by rfl, ?_⟩) ?_
            rotate_left
            · intro w hSw; go_simp; (try with_reducible rfl)
            simp only [List.set_cons_zero, List.set_cons_succ]
            refine held_take (i := 4) (v := ?_) 58 rfl (by kernel_rfl) (by kernel_rfl) (by kernel_rfl) (fun _ _ _ h => h) rfl (by assumption) (Or.inl ⟨by rfl, ?_⟩) ?_
            rotate_left
            · intro w hSw; go_simp; (try with_reducible rfl)
            simp only [List.set_cons_zero, List.set_cons_succ]
            refine held_take (i := 5) (v := ?_) 59 rfl (by kernel_rfl) (by kernel_rfl) (by kernel_rfl) (fun _ _ _ h => h) rfl (by assumption) (Or.inl ⟨by rfl, ?_⟩) ?_
            rotate_left
            · intro w hSw; go_simp; (try with_reducible rfl)
            simp only [List.set_cons_zero, List.set_cons_succ]
            refine held_take (i := 7) (v := ?_) 61 rfl (by kernel_rfl) (by kernel_rfl) (by kernel_rfl) (fun _ _ _ h => h) rfl (by assumption) (Or.inl ⟨by rfl, ?_⟩) ?_
            rotate_left
            · intro w hSw; go_simp; (try with_reducible rfl)
            simp only [List.set_cons_zero, List.set_cons_succ]
            refine held_take (i := 8) (v := ?_) 62 rfl (by kernel_rfl) (by kernel_rfl) (by kernel_rfl) (fun _ _ _ h => h) rfl (by assumption) (Or.inl ⟨by rfl, ?_⟩) ?_
            rotate_left
            · intro w hSw; go_simp; (try with_reducible rfl)
            simp only [List.set_cons_zero, List.set_cons_succ]
            refine held_take (i := 9) (v := ?_) 63 rfl (by kernel_rfl) (by kernel_rfl) (by kernel_rfl) (fun _ _ _ h => h) rfl (by assumption) (Or.inl ⟨by rfl, ?_⟩) ?_
            rotate_left
            · intro w hSw; go_simp; (try with_reducible rfl)
            simp only [List.set_cons_zero, List.set_cons_succ]
            refine held_take (i := 10) (v := ?_) 64 rfl (by kernel_rfl) (by kernel_rfl) (by kernel_rfl) (fun _ _ _ h => h) rfl (by assumption) (Or.inl ⟨by rfl, ?_⟩) ?_
            rotate_left
            · intro w hSw; go_simp; (try with_reducible rfl)
            simp only [List.set_cons_zero, List.set_cons_succ]
            refine held_take (i := 12) (v := ?_) 66 rfl (by kernel_rfl) (by kernel_rfl) (by kernel_rfl) (fun _ _ _ h => h) rfl (by assumption) (Or.inl ⟨by rfl, ?_⟩) ?_
            rotate_left
            · intro w hSw; go_simp; (try with_reducible rfl)
            simp only [List.set_cons_zero, List.set_cons_succ]
            refine held_take (i := 13) (v := ?_) 67 rfl (by kernel_rfl) (by kernel_rfl) (by kernel_rfl) (fun _ _ _ h => h) rfl (by assumption) (Or.inl ⟨by rfl, ?_⟩) ?_
            rotate_left
            · intro w hSw; go_simp; (try with_reducible rfl)
            simp only [List.set_cons_zero, List.set_cons_succ]
            refine held_take (i := 14) (v := ?_) 68 rfl (by kernel_rfl) (by kernel_rfl) (by kernel_rfl) (fun _ _ _ h => h) rfl (by assumption) (Or.inl ⟨by rfl, ?_⟩) ?_
            rotate_left
            · intro w hSw; go_simp; (try with_reducible rfl)
            simp only [List.set_cons_zero, List.set_cons_succ]
            refine held_take (i := 15) (v := ?_) 69 rfl (by kernel_rfl) (by kernel_rfl) (by kernel_rfl) (fun _ _ _ h => h) rfl (by assumption) (Or.inl ⟨by rfl, ?_⟩) ?_
            rotate_left
            · intro w hSw; go_simp; (try with_reducible rfl)
            simp only [List.set_cons_zero, List.set_cons_succ]
            refine wpAnyH_ready (rs := [6]) (by kernel_rfl) (by simp) ?_
            refine (AllReadyH.cons rfl (fun K hK => ?_) AllReadyH.nil)
            go_simp
            refine (root_any m _ c (L.take m) _ (hT1.below hHeld) (take_short HS.out m) (by omega)).mono ?_
            rintro e w1x ⟨v6, rfl, ho6, hb⟩
            have hbt := HB.trans hHeld hb
            obtain ⟨a6, c6, rfl, hB6⟩ := ho6.bsn (n := 32) (mroot_length _)
            clear ho6
            go_wp2_with fail
            refine hK.out _ _ hbt (fun _ => ?_)
            clear hK hHeld K
            have hHeld := hbt
            clear hb hbt
            refine wpAnyH_ready (rs := [11]) (by kernel_rfl) (by simp) ?_
            refine (AllReadyH.cons rfl (fun K hK => ?_) AllReadyH.nil)
            go_simp
            refine (root_any M _ c (L.take M) _ (hT2.below hHeld) (take_short HS.out M) (by omega)).mono ?_
            rintro e w2x ⟨v11, rfl, ho11, hb⟩
            have hbt := HB.trans hHeld hb
            have hB6 := hB6.below hb
            obtain ⟨a11, c11, rfl, hB11⟩ := ho11.bsn (n := 32) (mroot_length _)
            clear ho11
            go_wp2_with fail
            refine hK.out _ _ hbt (fun _ => ?_)
            clear hK hHeld K
            have hHeld := hbt
            clear hb hbt
            refine wpAnyH_ready (rs := [16]) (by kernel_rfl) (by simp) ?_
            refine (AllReadyH.cons rfl (fun K hK => ?_) AllReadyH.nil)
            go_simp
            refine (checkG_eq _ _ _ _ _ _ _ _ (m : Int) ((M : Nat) : Int) _ _ _ _ true _ hB6 hB11 (hHL.below hHeld) HHS.out (by omega) (by omega) (by omega) HC2.out).mono ?_
            rintro e w3x ⟨rfl, hb⟩
            have hbt := HB.trans hHeld hb
            have hB6 := hB6.below hb
            have hB11 := hB11.below hb
            go_wp2_with fail
            refine hK.out _ _ hbt (fun _ => ?_)
            clear hK hHeld K
            have hHeld := hbt
            clear hb hbt
            refine held_take (i := 17) (v := ?_) 71 rfl (by kernel_rfl) (by kernel_rfl) (by kernel_rfl) (fun _ _ _ h => h) rfl (by assumption) (Or.inl ⟨by rfl, ?_⟩) ?_
            rotate_left
            · intro w hSw; go_simp; (try with_reducible rfl)
            simp only [List.set_cons_zero, List.set_cons_succ]
            refine held_take (i := 18) (v := ?_) 72 rfl (by kernel_rfl) (by kernel_rfl) (by kernel_rfl) (fun _ _ _ h => h) rfl (by assumption) (Or.inl ⟨by rfl, ?_⟩) ?_
            rotate_left
            · intro w hSw; go_simp; (try with_reducible rfl)
            simp only [List.set_cons_zero, List.set_cons_succ]
            refine wpAnyH_done (by kernel_rfl) ?_ _
            go_wp2_with fail
            go_meet
            exact ⟨rfl, hL.below hHeld, hR.below hHeld, hE.step hHeld⟩
          case rest =>
            obtain ⟨rfl, hL, hR, hE⟩ := hcut
            go_wp2_with fail
            go_roundw
            case rel => exact ⟨M, rfl, by have := HM.out; omega, by have := HM.out; omega, hL, hR, hE⟩
            case measure => have := HM.out; simp [intOf]; omega
      · have e1 : ¬ (m : Int) ≤ (n : Int) := by omega
        go_wp2_with fail
        go_meet
        exact hE1
  case rest =>
    have hE := hcut
    go_wp2_with fail
    refine (merk_known _).mono ?_
    rintro e w8 ⟨rfl, hb⟩
    have hE := hE.step hb
    go_wp2_with fail
    go_ret
    exact ⟨rfl, hE.1⟩
end Go.Proofs.Ytaomkjnkfkahhaa
