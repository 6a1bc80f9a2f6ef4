/- The walk of ShaParts. -/
import Derived.Test.YtmjlndfkddacbaaShaKnown
import Derived.Test.YtmjlndfkddacbaaFr
import Derived.Test.YtmjlndfkddacbaaCut
import Derived.Test.YtmjlndfkddacbaaArg
namespace Go.Proofs.Ytmjlndfkddacbaa
open Go.RowKit

theorem own_one (w : World) (x : UInt8) : Own (w.alloc (.cells #[.int .u8 (x.toNat : Int)] TB)) 0 (.slice (some ⟨w.heap.size, 0, none⟩) 1 1) [x] :=
  Own.of_row (xs := [x]) (Row.made w _ 1 1 [x] rfl rfl (Nat.le_refl _) (by simp [maxLen]) rfl) (Nat.zero_le _)

set_option maxHeartbeats 4000000 in
set_option maxRecDepth 100000 in
theorem ShaParts_walk (v0 v1 : Value) (w : World) (h0 : Arg Try.prog w 25 v0) (h1 : Arg Try.prog w 25 v1) :
    Calls Try.prog 8 #[v0, v1] w fun e w' => e = .returned (.bool true) ∧ Below w.heap.size w w' := by
  obtain ⟨aa, la0, ca, xa0, rfl, hA⟩ := h0.bytes Try.underlying25 Try.underlying5 (by kernel_rfl)
  obtain ⟨ab, lb0, cb, xb0, rfl, hB⟩ := h1.bytes Try.underlying25 Try.underlying5 (by kernel_rfl)
  clear h0 h1
  have HCa := Lib.hid (fun W => cut_any 200 aa la0 ca W hA.2.1 (by omega))
  have HCb := Lib.hid (fun W => cut_any 200 ab lb0 cb W hB.2.1 (by omega))
  have hA := hA.take (k := min la0 200) (Nat.min_le_left _ _)
  have hB := hB.take (k := min lb0 200) (Nat.min_le_left _ _)
  have hla : min la0 200 ≤ 200 := Nat.min_le_right _ _
  have hlb : min lb0 200 ≤ 200 := Nat.min_le_right _ _
  generalize min la0 200 = la at *
  generalize min lb0 200 = lb at *
  generalize xa0.take la = xa at *
  generalize xb0.take lb = xb at *
  have HL1 : Hid (([0] ++ xa).length = la + 1) := Lib.hid (by simp [hA.1])
  have HL2 : Hid (([1] ++ xa).length = la + 1) := Lib.hid (by simp [hA.1])
  have HL3 : Hid (([1] ++ xa ++ xb).length = la + 1 + lb) := Lib.hid (by simp [hA.1, hB.1]; omega)
  have hE := Ext.refl w
  obtain ⟨H, hH⟩ : ∃ H, H = w.heap.size := ⟨_, rfl⟩
  rw [← hH] at hE ⊢
  have HH := Lib.hid hH
  clear hH
  go_enter Try.func8, Try.ntmps8
  go_wp2_with fail
  refine (HCa.out _).mono ?_
  rintro e wq ⟨rfl, rfl⟩
  go_wp2_with fail
  refine (HCb.out _).mono ?_
  rintro e wq ⟨rfl, rfl⟩
  have hAw := hA
  have hBw := hB
  go_upto_region 3 with fail
  obtain ⟨w1, hw1⟩ : ∃ w1, w1 = w := ⟨_, rfl⟩
  have z1 : ∀ L : List UInt8, (!(strOf L).toList == (strOf L).toList) = false := fun L => by simp
  have hE : Ext H w w1 := by rw [hw1]; exact hE
  rw [← hw1] at hA hB
  conv => arg 5; rw [← hw1]
  clear hw1
  go_cut [36] (fun s wr => s = .bool false ∧ Ext H w wr)
  case first =>
    obtain ⟨wd, hwd⟩ : ∃ wd, wd = w1.drew := ⟨_, rfl⟩
    have hb : Below w1.heap.size w1 wd := by rw [hwd]; exact (Below.refl _ _).drew
    have hA := hA.below hb
    have hB := hB.below hb
    have hE := hE.step hb
    clear hb
    refine held_start (by kernel_rfl) (fun hHeld => ?_)
    rw [← hwd] at hHeld ⊢
    clear hwd
    refine held_take (i := 0) (v := ?_) 14 rfl (by kernel_rfl) (by kernel_rfl) (by kernel_rfl) (fun _ _ _ h => h) rfl (by assumption) (Or.inl ⟨by rfl, ?_⟩) ?_
    rotate_left
    · intro w hSw; go_simp; (try with_reducible rfl)
    simp only [List.set_cons_zero, List.set_cons_succ]
    refine held_take (i := 4) (v := ?_) 18 rfl (by kernel_rfl) (by kernel_rfl) (by kernel_rfl) (fun _ _ _ h => h) rfl (by assumption) (Or.inl ⟨by rfl, ?_⟩) ?_
    rotate_left
    · intro w hSw; go_simp; (try with_reducible rfl)
    simp only [List.set_cons_zero, List.set_cons_succ]
    refine wpAnyH_ready (rs := [1, 3]) (by kernel_rfl) (by simp) ?_
    refine (AllReadyH.cons rfl (fun K hK => ?_) (AllReadyH.cons rfl (fun K hK => ?_) AllReadyH.nil))
    · go_simp
      refine (shaleaf_any _ _ _ _ _ (hA.below hHeld) (by omega)).mono ?_
      rintro e w1x ⟨v1, rfl, ho1, hb⟩
      have hbt := HB.trans hHeld hb
      have hA := hA.below hbt
      have hB := hB.below hbt
      have hE := hE.step hbt
      obtain ⟨a1, c1, rfl, hB1⟩ := ho1.bsn (n := 32) (sha_length _)
      go_wp2_with fail
      refine hK.out _ _ hbt (fun _ => held_next hbt (fun hHeld2 => ?_))
      clear hK hHeld hb hbt K
      have hHeld := hHeld2
      clear hHeld2
      refine held_take (i := 2) (v := ?_) 16 rfl (by kernel_rfl) (by kernel_rfl) (by kernel_rfl) (fun _ _ _ h => h) rfl (by assumption) (Or.inl ⟨by rfl, ?_⟩) ?_
      rotate_left
      · intro w hSw; have hs := run_string (hB1.below hSw); go_simp; (try with_reducible rfl)
      simp only [List.set_cons_zero, List.set_cons_succ]
      refine wpAnyH_ready (rs := [3]) (by kernel_rfl) (by simp) ?_
      refine (AllReadyH.cons rfl (fun K hK => ?_) AllReadyH.nil)
      go_simp
      have hb : HB w1x (w1x.alloc (.cells #[.int .u8 0] TB)) := (HB.refl _).alloc _
      have hbt := HB.trans hHeld hb
      have hA := hA.below hbt
      have hB := hB.below hbt
      have hE := hE.step hbt
      have hB1 := hB1.below hbt
      have hO3 : Own (w1x.alloc (.cells #[.int .u8 0] TB)) 0 (.slice (some ⟨w1x.heap.size, 0, none⟩) 1 1) [0] := own_one w1x 0
      generalize w1x.alloc (.cells #[.int .u8 0] TB) = w2x at *
      refine hK.out _ _ hbt (fun _ => held_next hbt (fun hHeld2 => ?_))
      clear hK hHeld hb hbt K
      have hHeld := hHeld2
      clear hHeld2
      refine wpAnyH_ready (rs := [5]) (by kernel_rfl) (by simp) ?_
      refine (AllReadyH.cons rfl (fun K hK => ?_) AllReadyH.nil)
      refine step_append_fr (by rfl) (.tmp 17) (.tmp 18) rfl _ _ [0] ?_ ⟨(hO3.below hHeld).zero, .inr ⟨_, _, rfl⟩⟩ hHeld _ la _ xa ?_ (hA.below hHeld) (by simp; omega) (fun v3x w3x hF hb => ?_)
      rfl
      rfl
      obtain ⟨a4, c4, rfl, hB4⟩ := hF.1.bsn (n := la + 1) HL1.out
      go_wp2_with fail
      refine hK.out _ _ hb (fun _ => ?_)
      clear hK hHeld K
      have hHeld := hb
      clear hb
      refine wpAnyH_ready (rs := [6]) (by kernel_rfl) (by simp) ?_
      refine (AllReadyH.cons rfl (fun K hK => ?_) AllReadyH.nil)
      go_simp
      refine (shasum_any _ _ _ _ _ hB4 (by omega)).mono ?_
      rintro e w4x ⟨v6, rfl, ho6, hb⟩
      have hbt := HB.trans hHeld hb
      have hA := hA.below hbt
      have hB := hB.below hbt
      have hE := hE.step hbt
      have hB1 := hB1.below hbt
      have hO3 := hO3.below hbt
      obtain ⟨a6, c6, rfl, hB6⟩ := ho6.bsn (n := 32) (sha_length _)
      go_wp2_with fail
      refine hK.out _ _ hbt (fun _ => held_next hbt (fun hHeld2 => ?_))
      clear hK hHeld hb hbt K
      have hHeld := hHeld2
      clear hHeld2
      refine held_take (i := 7) (v := ?_) 21 rfl (by kernel_rfl) (by kernel_rfl) (by kernel_rfl) (fun _ _ _ h => h) rfl (by assumption) (Or.inl ⟨by rfl, ?_⟩) ?_
      rotate_left
      · intro w hSw; have hs := run_string (hB6.below hSw); go_simp; (try with_reducible rfl)
      simp only [List.set_cons_zero, List.set_cons_succ]
      refine held_take (i := 8) (v := ?_) 22 rfl (by kernel_rfl) (by kernel_rfl) (by kernel_rfl) (fun _ _ _ h => h) rfl (by assumption) (Or.inl ⟨by rfl, ?_⟩) ?_
      rotate_left
      · intro w hSw; go_simp; (try with_reducible rfl)
      simp only [List.set_cons_zero, List.set_cons_succ]
      refine held_take (i := 9) (v := ?_) 23 rfl (by kernel_rfl) (by kernel_rfl) (by kernel_rfl) (fun _ _ _ h => h) rfl (by assumption) (Or.inl ⟨by rfl, ?_⟩) ?_
      rotate_left
      · intro w hSw; go_simp; (try with_reducible rfl)
      simp only [List.set_cons_zero, List.set_cons_succ]
      refine held_take (i := 10) (v := ?_) 24 rfl (by kernel_rfl) (by kernel_rfl) (by kernel_rfl) (fun _ _ _ h => h) rfl (by assumption) (Or.inl ⟨by rfl, ?_⟩) ?_
      rotate_left
      · intro w hSw; go_simp; (try with_reducible rfl)
      simp only [List.set_cons_zero, List.set_cons_succ]
      refine held_take (i := 11) (v := ?_) 25 rfl (by kernel_rfl) (by kernel_rfl) (by kernel_rfl) (fun _ _ _ h => h) rfl (by assumption) (Or.inl ⟨by rfl, ?_⟩) ?_
      rotate_left
      · intro w hSw; go_simp; (try with_reducible rfl)
      simp only [List.set_cons_zero, List.set_cons_succ]
      refine held_take (i := 15) (v := ?_) 29 rfl (by kernel_rfl) (by kernel_rfl) (by kernel_rfl) (fun _ _ _ h => h) rfl (by assumption) (Or.inl ⟨by rfl, ?_⟩) ?_
      rotate_left
      · intro w hSw; go_simp; (try with_reducible rfl)
      simp only [List.set_cons_zero, List.set_cons_succ]
      refine held_take (i := 17) (v := ?_) 31 rfl (by kernel_rfl) (by kernel_rfl) (by kernel_rfl) (fun _ _ _ h => h) rfl (by assumption) (Or.inl ⟨by rfl, ?_⟩) ?_
      rotate_left
      · intro w hSw; go_simp; (try with_reducible rfl)
      simp only [List.set_cons_zero, List.set_cons_succ]
      refine wpAnyH_ready (rs := [12, 14]) (by kernel_rfl) (by simp) ?_
      refine (AllReadyH.cons rfl (fun K hK => ?_) (AllReadyH.cons rfl (fun K hK => ?_) AllReadyH.nil))
      · go_simp
        refine (shapair_any _ _ _ _ _ _ _ _ _ (hA.below hHeld) (hB.below hHeld) (by omega)).mono ?_
        rintro e w5x ⟨v7, rfl, ho7, hb⟩
        have hbt := HB.trans hHeld hb
        have hA := hA.below hbt
        have hB := hB.below hbt
        have hE := hE.step hbt
        have hB1 := hB1.below hbt
        have hO3 := hO3.below hbt
        have hB6 := hB6.below hbt
        obtain ⟨a7, c7, rfl, hB7⟩ := ho7.bsn (n := 32) (sha_length _)
        go_wp2_with fail
        refine hK.out _ _ hbt (fun _ => held_next hbt (fun hHeld2 => ?_))
        clear hK hHeld hb hbt K
        have hHeld := hHeld2
        clear hHeld2
        refine held_take (i := 13) (v := ?_) 27 rfl (by kernel_rfl) (by kernel_rfl) (by kernel_rfl) (fun _ _ _ h => h) rfl (by assumption) (Or.inl ⟨by rfl, ?_⟩) ?_
        rotate_left
        · intro w hSw; have hs := run_string (hB7.below hSw); go_simp; (try with_reducible rfl)
        simp only [List.set_cons_zero, List.set_cons_succ]
        refine wpAnyH_ready (rs := [14]) (by kernel_rfl) (by simp) ?_
        refine (AllReadyH.cons rfl (fun K hK => ?_) AllReadyH.nil)
        go_simp
        have hb : HB w5x (w5x.alloc (.cells #[.int .u8 1] TB)) := (HB.refl _).alloc _
        have hbt := HB.trans hHeld hb
        have hA := hA.below hbt
        have hB := hB.below hbt
        have hE := hE.step hbt
        have hB1 := hB1.below hbt
        have hO3 := hO3.below hbt
        have hB6 := hB6.below hbt
        have hB7 := hB7.below hbt
        have hO8 : Own (w5x.alloc (.cells #[.int .u8 1] TB)) 0 (.slice (some ⟨w5x.heap.size, 0, none⟩) 1 1) [1] := own_one w5x 1
        generalize w5x.alloc (.cells #[.int .u8 1] TB) = w6x at *
        refine hK.out _ _ hbt (fun _ => held_next hbt (fun hHeld2 => ?_))
        clear hK hHeld hb hbt K
        have hHeld := hHeld2
        clear hHeld2
        refine wpAnyH_ready (rs := [16]) (by kernel_rfl) (by simp) ?_
        refine (AllReadyH.cons rfl (fun K hK => ?_) AllReadyH.nil)
        refine step_append_fr (by rfl) (.tmp 28) (.tmp 29) rfl _ _ [1] ?_ ⟨(hO8.below hHeld).zero, .inr ⟨_, _, rfl⟩⟩ hHeld _ la _ xa ?_ (hA.below hHeld) (by simp; omega) (fun v7x w7x hF hb => ?_)
        rfl
        rfl
        have hF9 := hF
        obtain ⟨a9, c9, rfl, hB9⟩ := hF.1.bsn (n := la + 1) HL2.out
        go_wp2_with fail
        refine hK.out _ _ hb (fun _ => ?_)
        clear hK hHeld K
        have hHeld := hb
        clear hb
        refine wpAnyH_ready (rs := [18]) (by kernel_rfl) (by simp) ?_
        refine (AllReadyH.cons rfl (fun K hK => ?_) AllReadyH.nil)
        refine step_append_fr (by rfl) (.tmp 30) (.tmp 31) rfl _ _ _ ?_ hF9 hHeld _ lb _ xb ?_ (hB.below hHeld) (by rw [HL2.out]; omega) (fun v8x w8x hF hb => ?_)
        rfl
        rfl
        obtain ⟨a10, c10, rfl, hB10⟩ := hF.1.bsn (n := la + 1 + lb) HL3.out
        go_wp2_with fail
        refine hK.out _ _ hb (fun _ => ?_)
        clear hK hHeld K
        have hHeld := hb
        clear hb
        refine wpAnyH_ready (rs := [19]) (by kernel_rfl) (by simp) ?_
        refine (AllReadyH.cons rfl (fun K hK => ?_) AllReadyH.nil)
        go_simp
        refine (shasum_any _ _ _ _ _ hB10 (by omega)).mono ?_
        rintro e w9x ⟨v11, rfl, ho11, hb⟩
        have hbt := HB.trans hHeld hb
        have hA := hA.below hbt
        have hB := hB.below hbt
        have hE := hE.step hbt
        have hB1 := hB1.below hbt
        have hO3 := hO3.below hbt
        have hB6 := hB6.below hbt
        have hB7 := hB7.below hbt
        have hO8 := hO8.below hbt
        obtain ⟨a11, c11, rfl, hB11⟩ := ho11.bsn (n := 32) (sha_length _)
        go_wp2_with fail
        refine hK.out _ _ hbt (fun _ => held_next hbt (fun hHeld2 => ?_))
        clear hK hHeld hb hbt K
        have hHeld := hHeld2
        clear hHeld2
        refine held_take (i := 20) (v := ?_) 34 rfl (by kernel_rfl) (by kernel_rfl) (by kernel_rfl) (fun _ _ _ h => h) rfl (by assumption) (Or.inl ⟨by rfl, ?_⟩) ?_
        rotate_left
        · intro w hSw; have hs := run_string (hB11.below hSw); go_simp; (try with_reducible rfl)
        simp only [List.set_cons_zero, List.set_cons_succ]
        refine held_take (i := 21) (v := ?_) 35 rfl (by kernel_rfl) (by kernel_rfl) (by kernel_rfl) (fun _ _ _ h => h) rfl (by assumption) (Or.inl ⟨by rfl, ?_⟩) ?_
        rotate_left
        · intro w hSw; go_simp; (try with_reducible rfl)
        simp only [List.set_cons_zero, List.set_cons_succ]
        refine held_take (i := 22) (v := ?_) 36 rfl (by kernel_rfl) (by kernel_rfl) (by kernel_rfl) (fun _ _ _ h => h) rfl (by assumption) (Or.inl ⟨by rfl, ?_⟩) ?_
        rotate_left
        · intro w hSw; go_simp; (try with_reducible rfl)
        simp only [List.set_cons_zero, List.set_cons_succ]
        refine wpAnyH_done (by kernel_rfl) ?_ _
        go_wp2_with fail
        go_meet
        exact ⟨rfl, hE.step hHeld⟩
      · go_simp
        have hb : HB w4x (w4x.alloc (.cells #[.int .u8 1] TB)) := (HB.refl _).alloc _
        have hbt := HB.trans hHeld hb
        have hA := hA.below hbt
        have hB := hB.below hbt
        have hE := hE.step hbt
        have hB1 := hB1.below hbt
        have hO3 := hO3.below hbt
        have hB6 := hB6.below hbt
        have hO8 : Own (w4x.alloc (.cells #[.int .u8 1] TB)) 0 (.slice (some ⟨w4x.heap.size, 0, none⟩) 1 1) [1] := own_one w4x 1
        generalize w4x.alloc (.cells #[.int .u8 1] TB) = w10x at *
        refine hK.out _ _ hbt (fun _ => held_next hbt (fun hHeld2 => ?_))
        clear hK hHeld hb hbt K
        have hHeld := hHeld2
        clear hHeld2
        refine wpAnyH_ready (rs := [12]) (by kernel_rfl) (by simp) ?_
        refine (AllReadyH.cons rfl (fun K hK => ?_) AllReadyH.nil)
        go_simp
        refine (shapair_any _ _ _ _ _ _ _ _ _ (hA.below hHeld) (hB.below hHeld) (by omega)).mono ?_
        rintro e w11x ⟨v7, rfl, ho7, hb⟩
        have hbt := HB.trans hHeld hb
        have hA := hA.below hbt
        have hB := hB.below hbt
        have hE := hE.step hbt
        have hB1 := hB1.below hbt
        have hO3 := hO3.below hbt
        have hB6 := hB6.below hbt
        have hO8 := hO8.below hbt
        obtain ⟨a7, c7, rfl, hB7⟩ := ho7.bsn (n := 32) (sha_length _)
        go_wp2_with fail
        refine hK.out _ _ hbt (fun _ => held_next hbt (fun hHeld2 => ?_))
        clear hK hHeld hb hbt K
        have hHeld := hHeld2
        clear hHeld2
        refine held_take (i := 13) (v := ?_) 27 rfl (by kernel_rfl) (by kernel_rfl) (by kernel_rfl) (fun _ _ _ h => h) rfl (by assumption) (Or.inl ⟨by rfl, ?_⟩) ?_
        rotate_left
        · intro w hSw; have hs := run_string (hB7.below hSw); go_simp; (try with_reducible rfl)
        simp only [List.set_cons_zero, List.set_cons_succ]
        refine wpAnyH_ready (rs := [16]) (by kernel_rfl) (by simp) ?_
        refine (AllReadyH.cons rfl (fun K hK => ?_) AllReadyH.nil)
        refine step_append_fr (by rfl) (.tmp 28) (.tmp 29) rfl _ _ [1] ?_ ⟨(hO8.below hHeld).zero, .inr ⟨_, _, rfl⟩⟩ hHeld _ la _ xa ?_ (hA.below hHeld) (by simp; omega) (fun v12x w12x hF hb => ?_)
        rfl
        rfl
        have hF9 := hF
        obtain ⟨a9, c9, rfl, hB9⟩ := hF.1.bsn (n := la + 1) HL2.out
        go_wp2_with fail
        refine hK.out _ _ hb (fun _ => ?_)
        clear hK hHeld K
        have hHeld := hb
        clear hb
        refine wpAnyH_ready (rs := [18]) (by kernel_rfl) (by simp) ?_
        refine (AllReadyH.cons rfl (fun K hK => ?_) AllReadyH.nil)
        refine step_append_fr (by rfl) (.tmp 30) (.tmp 31) rfl _ _ _ ?_ hF9 hHeld _ lb _ xb ?_ (hB.below hHeld) (by rw [HL2.out]; omega) (fun v13x w13x hF hb => ?_)
        rfl
        rfl
        obtain ⟨a10, c10, rfl, hB10⟩ := hF.1.bsn (n := la + 1 + lb) HL3.out
        go_wp2_with fail
        refine hK.out _ _ hb (fun _ => ?_)
        clear hK hHeld K
        have hHeld := hb
        clear hb
        refine wpAnyH_ready (rs := [19]) (by kernel_rfl) (by simp) ?_
        refine (AllReadyH.cons rfl (fun K hK => ?_) AllReadyH.nil)
        go_simp
        refine (shasum_any _ _ _ _ _ hB10 (by omega)).mono ?_
        rintro e w14x ⟨v11, rfl, ho11, hb⟩
        have hbt := HB.trans hHeld hb
        have hA := hA.below hbt
        have hB := hB.below hbt
        have hE := hE.step hbt
        have hB1 := hB1.below hbt
        have hO3 := hO3.below hbt
        have hB6 := hB6.below hbt
        have hO8 := hO8.below hbt
        have hB7 := hB7.below hbt
        obtain ⟨a11, c11, rfl, hB11⟩ := ho11.bsn (n := 32) (sha_length _)
        go_wp2_with fail
        refine hK.out _ _ hbt (fun _ => held_next hbt (fun hHeld2 => ?_))
        clear hK hHeld hb hbt K
        have hHeld := hHeld2
        clear hHeld2
        refine held_take (i := 20) (v := ?_) 34 rfl (by kernel_rfl) (by kernel_rfl) (by kernel_rfl) (fun _ _ _ h => h) rfl (by assumption) (Or.inl ⟨by rfl, ?_⟩) ?_
        rotate_left
        · intro w hSw; have hs := run_string (hB11.below hSw); go_simp; (try with_reducible rfl)
        simp only [List.set_cons_zero, List.set_cons_succ]
        refine held_take (i := 21) (v := ?_) 35 rfl (by kernel_rfl) (by kernel_rfl) (by kernel_rfl) (fun _ _ _ h => h) rfl (by assumption) (Or.inl ⟨by rfl, ?_⟩) ?_
        rotate_left
        · intro w hSw; go_simp; (try with_reducible rfl)
        simp only [List.set_cons_zero, List.set_cons_succ]
        refine held_take (i := 22) (v := ?_) 36 rfl (by kernel_rfl) (by kernel_rfl) (by kernel_rfl) (fun _ _ _ h => h) rfl (by assumption) (Or.inl ⟨by rfl, ?_⟩) ?_
        rotate_left
        · intro w hSw; go_simp; (try with_reducible rfl)
        simp only [List.set_cons_zero, List.set_cons_succ]
        refine wpAnyH_done (by kernel_rfl) ?_ _
        go_wp2_with fail
        go_meet
        exact ⟨rfl, hE.step hHeld⟩
    · go_simp
      have hb : HB wd (wd.alloc (.cells #[.int .u8 0] TB)) := (HB.refl _).alloc _
      have hbt := HB.trans hHeld hb
      have hA := hA.below hbt
      have hB := hB.below hbt
      have hE := hE.step hbt
      have hO3 : Own (wd.alloc (.cells #[.int .u8 0] TB)) 0 (.slice (some ⟨wd.heap.size, 0, none⟩) 1 1) [0] := own_one wd 0
      generalize wd.alloc (.cells #[.int .u8 0] TB) = w15x at *
      refine hK.out _ _ hbt (fun _ => held_next hbt (fun hHeld2 => ?_))
      clear hK hHeld hb hbt K
      have hHeld := hHeld2
      clear hHeld2
      refine wpAnyH_ready (rs := [1]) (by kernel_rfl) (by simp) ?_
      refine (AllReadyH.cons rfl (fun K hK => ?_) AllReadyH.nil)
      go_simp
      refine (shaleaf_any _ _ _ _ _ (hA.below hHeld) (by omega)).mono ?_
      rintro e w16x ⟨v1, rfl, ho1, hb⟩
      have hbt := HB.trans hHeld hb
      have hA := hA.below hbt
      have hB := hB.below hbt
      have hE := hE.step hbt
      have hO3 := hO3.below hbt
      obtain ⟨a1, c1, rfl, hB1⟩ := ho1.bsn (n := 32) (sha_length _)
      go_wp2_with fail
      refine hK.out _ _ hbt (fun _ => held_next hbt (fun hHeld2 => ?_))
      clear hK hHeld hb hbt K
      have hHeld := hHeld2
      clear hHeld2
      refine held_take (i := 2) (v := ?_) 16 rfl (by kernel_rfl) (by kernel_rfl) (by kernel_rfl) (fun _ _ _ h => h) rfl (by assumption) (Or.inl ⟨by rfl, ?_⟩) ?_
      rotate_left
      · intro w hSw; have hs := run_string (hB1.below hSw); go_simp; (try with_reducible rfl)
      simp only [List.set_cons_zero, List.set_cons_succ]
      refine wpAnyH_ready (rs := [5]) (by kernel_rfl) (by simp) ?_
      refine (AllReadyH.cons rfl (fun K hK => ?_) AllReadyH.nil)
      refine step_append_fr (by rfl) (.tmp 17) (.tmp 18) rfl _ _ [0] ?_ ⟨(hO3.below hHeld).zero, .inr ⟨_, _, rfl⟩⟩ hHeld _ la _ xa ?_ (hA.below hHeld) (by simp; omega) (fun v17x w17x hF hb => ?_)
      rfl
      rfl
      obtain ⟨a4, c4, rfl, hB4⟩ := hF.1.bsn (n := la + 1) HL1.out
      go_wp2_with fail
      refine hK.out _ _ hb (fun _ => ?_)
      clear hK hHeld K
      have hHeld := hb
      clear hb
      refine wpAnyH_ready (rs := [6]) (by kernel_rfl) (by simp) ?_
      refine (AllReadyH.cons rfl (fun K hK => ?_) AllReadyH.nil)
      go_simp
      refine (shasum_any _ _ _ _ _ hB4 (by omega)).mono ?_
      rintro e w18x ⟨v6, rfl, ho6, hb⟩
      have hbt := HB.trans hHeld hb
      have hA := hA.below hbt
      have hB := hB.below hbt
      have hE := hE.step hbt
      have hO3 := hO3.below hbt
      have hB1 := hB1.below hbt
      obtain ⟨a6, c6, rfl, hB6⟩ := ho6.bsn (n := 32) (sha_length _)
      go_wp2_with fail
      refine hK.out _ _ hbt (fun _ => held_next hbt (fun hHeld2 => ?_))
      clear hK hHeld hb hbt K
      have hHeld := hHeld2
      clear hHeld2
      refine held_take (i := 7) (v := ?_) 21 rfl (by kernel_rfl) (by kernel_rfl) (by kernel_rfl) (fun _ _ _ h => h) rfl (by assumption) (Or.inl ⟨by rfl, ?_⟩) ?_
      rotate_left
      · intro w hSw; have hs := run_string (hB6.below hSw); go_simp; (try with_reducible rfl)
      simp only [List.set_cons_zero, List.set_cons_succ]
      refine held_take (i := 8) (v := ?_) 22 rfl (by kernel_rfl) (by kernel_rfl) (by kernel_rfl) (fun _ _ _ h => h) rfl (by assumption) (Or.inl ⟨by rfl, ?_⟩) ?_
      rotate_left
      · intro w hSw; go_simp; (try with_reducible rfl)
      simp only [List.set_cons_zero, List.set_cons_succ]
      refine held_take (i := 9) (v := ?_) 23 rfl (by kernel_rfl) (by kernel_rfl) (by kernel_rfl) (fun _ _ _ h => h) rfl (by assumption) (Or.inl ⟨by rfl, ?_⟩) ?_
      rotate_left
      · intro w hSw; go_simp; (try with_reducible rfl)
      simp only [List.set_cons_zero, List.set_cons_succ]
      refine held_take (i := 10) (v := ?_) 24 rfl (by kernel_rfl) (by kernel_rfl) (by kernel_rfl) (fun _ _ _ h => h) rfl (by assumption) (Or.inl ⟨by rfl, ?_⟩) ?_
      rotate_left
      · intro w hSw; go_simp; (try with_reducible rfl)
      simp only [List.set_cons_zero, List.set_cons_succ]
      refine held_take (i := 11) (v := ?_) 25 rfl (by kernel_rfl) (by kernel_rfl) (by kernel_rfl) (fun _ _ _ h => h) rfl (by assumption) (Or.inl ⟨by rfl, ?_⟩) ?_
      rotate_left
      · intro w hSw; go_simp; (try with_reducible rfl)
      simp only [List.set_cons_zero, List.set_cons_succ]
      refine held_take (i := 15) (v := ?_) 29 rfl (by kernel_rfl) (by kernel_rfl) (by kernel_rfl) (fun _ _ _ h => h) rfl (by assumption) (Or.inl ⟨by rfl, ?_⟩) ?_
      rotate_left
      · intro w hSw; go_simp; (try with_reducible rfl)
      simp only [List.set_cons_zero, List.set_cons_succ]
      refine held_take (i := 17) (v := ?_) 31 rfl (by kernel_rfl) (by kernel_rfl) (by kernel_rfl) (fun _ _ _ h => h) rfl (by assumption) (Or.inl ⟨by rfl, ?_⟩) ?_
      rotate_left
      · intro w hSw; go_simp; (try with_reducible rfl)
      simp only [List.set_cons_zero, List.set_cons_succ]
      refine wpAnyH_ready (rs := [12, 14]) (by kernel_rfl) (by simp) ?_
      refine (AllReadyH.cons rfl (fun K hK => ?_) (AllReadyH.cons rfl (fun K hK => ?_) AllReadyH.nil))
      · go_simp
        refine (shapair_any _ _ _ _ _ _ _ _ _ (hA.below hHeld) (hB.below hHeld) (by omega)).mono ?_
        rintro e w19x ⟨v7, rfl, ho7, hb⟩
        have hbt := HB.trans hHeld hb
        have hA := hA.below hbt
        have hB := hB.below hbt
        have hE := hE.step hbt
        have hO3 := hO3.below hbt
        have hB1 := hB1.below hbt
        have hB6 := hB6.below hbt
        obtain ⟨a7, c7, rfl, hB7⟩ := ho7.bsn (n := 32) (sha_length _)
        go_wp2_with fail
        refine hK.out _ _ hbt (fun _ => held_next hbt (fun hHeld2 => ?_))
        clear hK hHeld hb hbt K
        have hHeld := hHeld2
        clear hHeld2
        refine held_take (i := 13) (v := ?_) 27 rfl (by kernel_rfl) (by kernel_rfl) (by kernel_rfl) (fun _ _ _ h => h) rfl (by assumption) (Or.inl ⟨by rfl, ?_⟩) ?_
        rotate_left
        · intro w hSw; have hs := run_string (hB7.below hSw); go_simp; (try with_reducible rfl)
        simp only [List.set_cons_zero, List.set_cons_succ]
        refine wpAnyH_ready (rs := [14]) (by kernel_rfl) (by simp) ?_
        refine (AllReadyH.cons rfl (fun K hK => ?_) AllReadyH.nil)
        go_simp
        have hb : HB w19x (w19x.alloc (.cells #[.int .u8 1] TB)) := (HB.refl _).alloc _
        have hbt := HB.trans hHeld hb
        have hA := hA.below hbt
        have hB := hB.below hbt
        have hE := hE.step hbt
        have hO3 := hO3.below hbt
        have hB1 := hB1.below hbt
        have hB6 := hB6.below hbt
        have hB7 := hB7.below hbt
        have hO8 : Own (w19x.alloc (.cells #[.int .u8 1] TB)) 0 (.slice (some ⟨w19x.heap.size, 0, none⟩) 1 1) [1] := own_one w19x 1
        generalize w19x.alloc (.cells #[.int .u8 1] TB) = w20x at *
        refine hK.out _ _ hbt (fun _ => held_next hbt (fun hHeld2 => ?_))
        clear hK hHeld hb hbt K
        have hHeld := hHeld2
        clear hHeld2
        refine wpAnyH_ready (rs := [16]) (by kernel_rfl) (by simp) ?_
        refine (AllReadyH.cons rfl (fun K hK => ?_) AllReadyH.nil)
        refine step_append_fr (by rfl) (.tmp 28) (.tmp 29) rfl _ _ [1] ?_ ⟨(hO8.below hHeld).zero, .inr ⟨_, _, rfl⟩⟩ hHeld _ la _ xa ?_ (hA.below hHeld) (by simp; omega) (fun v21x w21x hF hb => ?_)
        rfl
        rfl
        have hF9 := hF
        obtain ⟨a9, c9, rfl, hB9⟩ := hF.1.bsn (n := la + 1) HL2.out
        go_wp2_with fail
        refine hK.out _ _ hb (fun _ => ?_)
        clear hK hHeld K
        have hHeld := hb
        clear hb
        refine wpAnyH_ready (rs := [18]) (by kernel_rfl) (by simp) ?_
        refine (AllReadyH.cons rfl (fun K hK => ?_) AllReadyH.nil)
        refine step_append_fr (by rfl) (.tmp 30) (.tmp 31) rfl _ _ _ ?_ hF9 hHeld _ lb _ xb ?_ (hB.below hHeld) (by rw [HL2.out]; omega) (fun v22x w22x hF hb => ?_)
        rfl
        rfl
        obtain ⟨a10, c10, rfl, hB10⟩ := hF.1.bsn (n := la + 1 + lb) HL3.out
        go_wp2_with fail
        refine hK.out _ _ hb (fun _ => ?_)
        clear hK hHeld K
        have hHeld := hb
        clear hb
        refine wpAnyH_ready (rs := [19]) (by kernel_rfl) (by simp) ?_
        refine (AllReadyH.cons rfl (fun K hK => ?_) AllReadyH.nil)
        go_simp
        refine (shasum_any _ _ _ _ _ hB10 (by omega)).mono ?_
        rintro e w23x ⟨v11, rfl, ho11, hb⟩
        have hbt := HB.trans hHeld hb
        have hA := hA.below hbt
        have hB := hB.below hbt
        have hE := hE.step hbt
        have hO3 := hO3.below hbt
        have hB1 := hB1.below hbt
        have hB6 := hB6.below hbt
        have hB7 := hB7.below hbt
        have hO8 := hO8.below hbt
        obtain ⟨a11, c11, rfl, hB11⟩ := ho11.bsn (n := 32) (sha_length _)
        go_wp2_with fail
        refine hK.out _ _ hbt (fun _ => held_next hbt (fun hHeld2 => ?_))
        clear hK hHeld hb hbt K
        have hHeld := hHeld2
        clear hHeld2
        refine held_take (i := 20) (v := ?_) 34 rfl (by kernel_rfl) (by kernel_rfl) (by kernel_rfl) (fun _ _ _ h => h) rfl (by assumption) (Or.inl ⟨by rfl, ?_⟩) ?_
        rotate_left
        · intro w hSw; have hs := run_string (hB11.below hSw); go_simp; (try with_reducible rfl)
        simp only [List.set_cons_zero, List.set_cons_succ]
        refine held_take (i := 21) (v := ?_) 35 rfl (by kernel_rfl) (by kernel_rfl) (by kernel_rfl) (fun _ _ _ h => h) rfl (by assumption) (Or.inl ⟨by rfl, ?_⟩) ?_
        rotate_left
        · intro w hSw; go_simp; (try with_reducible rfl)
        simp only [List.set_cons_zero, List.set_cons_succ]
        refine held_take (i := 22) (v := ?_) 36 rfl (by kernel_rfl) (by kernel_rfl) (by kernel_rfl) (fun _ _ _ h => h) rfl (by assumption) (Or.inl ⟨by rfl, ?_⟩) ?_
        rotate_left
        · intro w hSw; go_simp; (try with_reducible rfl)
        simp only [List.set_cons_zero, List.set_cons_succ]
        refine wpAnyH_done (by kernel_rfl) ?_ _
        go_wp2_with fail
        go_meet
        exact ⟨rfl, hE.step hHeld⟩
      · go_simp
        have hb : HB w18x (w18x.alloc (.cells #[.int .u8 1] TB)) := (HB.refl _).alloc _
        have hbt := HB.trans hHeld hb
        have hA := hA.below hbt
        have hB := hB.below hbt
        have hE := hE.step hbt
        have hO3 := hO3.below hbt
        have hB1 := hB1.below hbt
        have hB6 := hB6.below hbt
        have hO8 : Own (w18x.alloc (.cells #[.int .u8 1] TB)) 0 (.slice (some ⟨w18x.heap.size, 0, none⟩) 1 1) [1] := own_one w18x 1
        generalize w18x.alloc (.cells #[.int .u8 1] TB) = w24x at *
        refine hK.out _ _ hbt (fun _ => held_next hbt (fun hHeld2 => ?_))
        clear hK hHeld hb hbt K
        have hHeld := hHeld2
        clear hHeld2
        refine wpAnyH_ready (rs := [12]) (by kernel_rfl) (by simp) ?_
        refine (AllReadyH.cons rfl (fun K hK => ?_) AllReadyH.nil)
        go_simp
        refine (shapair_any _ _ _ _ _ _ _ _ _ (hA.below hHeld) (hB.below hHeld) (by omega)).mono ?_
        rintro e w25x ⟨v7, rfl, ho7, hb⟩
        have hbt := HB.trans hHeld hb
        have hA := hA.below hbt
        have hB := hB.below hbt
        have hE := hE.step hbt
        have hO3 := hO3.below hbt
        have hB1 := hB1.below hbt
        have hB6 := hB6.below hbt
        have hO8 := hO8.below hbt
        obtain ⟨a7, c7, rfl, hB7⟩ := ho7.bsn (n := 32) (sha_length _)
        go_wp2_with fail
        refine hK.out _ _ hbt (fun _ => held_next hbt (fun hHeld2 => ?_))
        clear hK hHeld hb hbt K
        have hHeld := hHeld2
        clear hHeld2
        refine held_take (i := 13) (v := ?_) 27 rfl (by kernel_rfl) (by kernel_rfl) (by kernel_rfl) (fun _ _ _ h => h) rfl (by assumption) (Or.inl ⟨by rfl, ?_⟩) ?_
        rotate_left
        · intro w hSw; have hs := run_string (hB7.below hSw); go_simp; (try with_reducible rfl)
        simp only [List.set_cons_zero, List.set_cons_succ]
        refine wpAnyH_ready (rs := [16]) (by kernel_rfl) (by simp) ?_
        refine (AllReadyH.cons rfl (fun K hK => ?_) AllReadyH.nil)
        refine step_append_fr (by rfl) (.tmp 28) (.tmp 29) rfl _ _ [1] ?_ ⟨(hO8.below hHeld).zero, .inr ⟨_, _, rfl⟩⟩ hHeld _ la _ xa ?_ (hA.below hHeld) (by simp; omega) (fun v26x w26x hF hb => ?_)
        rfl
        rfl
        have hF9 := hF
        obtain ⟨a9, c9, rfl, hB9⟩ := hF.1.bsn (n := la + 1) HL2.out
        go_wp2_with fail
        refine hK.out _ _ hb (fun _ => ?_)
        clear hK hHeld K
        have hHeld := hb
        clear hb
        refine wpAnyH_ready (rs := [18]) (by kernel_rfl) (by simp) ?_
        refine (AllReadyH.cons rfl (fun K hK => ?_) AllReadyH.nil)
        refine step_append_fr (by rfl) (.tmp 30) (.tmp 31) rfl _ _ _ ?_ hF9 hHeld _ lb _ xb ?_ (hB.below hHeld) (by rw [HL2.out]; omega) (fun v27x w27x hF hb => ?_)
        rfl
        rfl
        obtain ⟨a10, c10, rfl, hB10⟩ := hF.1.bsn (n := la + 1 + lb) HL3.out
        go_wp2_with fail
        refine hK.out _ _ hb (fun _ => ?_)
        clear hK hHeld K
        have hHeld := hb
        clear hb
        refine wpAnyH_ready (rs := [19]) (by kernel_rfl) (by simp) ?_
        refine (AllReadyH.cons rfl (fun K hK => ?_) AllReadyH.nil)
        go_simp
        refine (shasum_any _ _ _ _ _ hB10 (by omega)).mono ?_
        rintro e w28x ⟨v11, rfl, ho11, hb⟩
        have hbt := HB.trans hHeld hb
        have hA := hA.below hbt
        have hB := hB.below hbt
        have hE := hE.step hbt
        have hO3 := hO3.below hbt
        have hB1 := hB1.below hbt
        have hB6 := hB6.below hbt
        have hO8 := hO8.below hbt
        have hB7 := hB7.below hbt
        obtain ⟨a11, c11, rfl, hB11⟩ := ho11.bsn (n := 32) (sha_length _)
        go_wp2_with fail
        refine hK.out _ _ hbt (fun _ => held_next hbt (fun hHeld2 => ?_))
        clear hK hHeld hb hbt K
        have hHeld := hHeld2
        clear hHeld2
        refine held_take (i := 20) (v := ?_) 34 rfl (by kernel_rfl) (by kernel_rfl) (by kernel_rfl) (fun _ _ _ h => h) rfl (by assumption) (Or.inl ⟨by rfl, ?_⟩) ?_
        rotate_left
        · intro w hSw; have hs := run_string (hB11.below hSw); go_simp; (try with_reducible rfl)
        simp only [List.set_cons_zero, List.set_cons_succ]
        refine held_take (i := 21) (v := ?_) 35 rfl (by kernel_rfl) (by kernel_rfl) (by kernel_rfl) (fun _ _ _ h => h) rfl (by assumption) (Or.inl ⟨by rfl, ?_⟩) ?_
        rotate_left
        · intro w hSw; go_simp; (try with_reducible rfl)
        simp only [List.set_cons_zero, List.set_cons_succ]
        refine held_take (i := 22) (v := ?_) 36 rfl (by kernel_rfl) (by kernel_rfl) (by kernel_rfl) (fun _ _ _ h => h) rfl (by assumption) (Or.inl ⟨by rfl, ?_⟩) ?_
        rotate_left
        · intro w hSw; go_simp; (try with_reducible rfl)
        simp only [List.set_cons_zero, List.set_cons_succ]
        refine wpAnyH_done (by kernel_rfl) ?_ _
        go_wp2_with fail
        go_meet
        exact ⟨rfl, hE.step hHeld⟩
  case rest =>
    obtain ⟨rfl, hE⟩ := hcut
    clear hA hB
    have HAN : Hid (0 < la → ∀ ad, aa = some ad → ad.block < H) := Lib.hid (by
      intro h0 ad had
      rcases hAw.2.2.2 with h | ⟨b, o, e, h5, _⟩
      · omega
      · rw [e] at had; injection had with had; rw [HH.out, ← had]; exact h5)
    have HBN : Hid (0 < lb → ∀ ad, ab = some ad → ad.block < H) := Lib.hid (by
      intro h0 ad had
      rcases hBw.2.2.2 with h | ⟨b, o, e, h5, _⟩
      · omega
      · rw [e] at had; injection had with had; rw [HH.out, ← had]; exact h5)
    have hA := hAw.below (by rw [← HH.out]; exact hE.1)
    have hB := hBw.below (by rw [← HH.out]; exact hE.1)
    go_wp2_with fail
    refine (shanew_any _).mono ?_
    rintro e w2 ⟨p, rfl, hS, hb2⟩
    obtain ⟨H2, hH2⟩ : ∃ H2, H2 = wc.heap.size := ⟨_, rfl⟩
    have hHH : H ≤ H2 := by rw [hH2]; exact hE.2
    rw [← hH2] at hS
    have hE := hE.step hb2
    have hA := hA.below hb2
    have hB := hB.below hb2
    clear hb2 hH2
    go_wp2_with fail
    refine (shawrite_any H2 p none [] aa la ca xa _ hS hA (fun h0 ad had hs => by
      have h1 := HAN.out h0 ad had
      have h2 := hS.1
      rcases hs with hs | hs
      · omega
      · cases hs) (by simp; omega)).mono ?_
    rintro e w3 ⟨rfl, g3, hS3, hC3, hg3⟩
    rw [List.nil_append] at hS3
    have hE := hE.upto ((hS.belowOf hC3).mono hHH)
    have hB := hB.chg hC3 (fun h0 ad had hs => by
      have h1 := HBN.out h0 ad had
      have h2 := hS.1
      rcases hs with hs | hs
      · omega
      · cases hs)
    clear hS hC3 hg3 hA
    have hxl : xa.length ≤ 200 := by rw [hAw.1]; exact hla
    go_wp2_with fail
    refine (shasum_st H2 p g3 xa _ hS3 (by omega)).mono ?_
    rintro e w4 ⟨v4, rfl, ho4, hb4⟩
    obtain ⟨a4, c4, rfl, hB4⟩ := ho4.bsn (n := 32) (sha_length _)
    have hE := hE.step hb4
    have hB := hB.below hb4
    have hS4 := hS3.below hb4
    have hs4 := run_string hB4
    obtain ⟨gx, hgx, hgx2, hRx⟩ : ∃ gx, a4 = some ⟨gx, 0, none⟩ ∧ w3.heap.size ≤ gx ∧ Row w4 gx c4 (sha xa) := by
      rcases ho4.parts with ⟨e, _⟩ | ⟨gx, c, e, h2, h3⟩
      · injection e with e1 e2 e3; cases e2
      · injection e with e1 e2 e3; subst e3; exact ⟨gx, e1, h2, h3⟩
    subst hgx
    have hpx : p < gx := Nat.lt_of_lt_of_le hS3.lt hgx2
    have hgg : g3 ≠ some gx := by
      rintro rfl
      have := hS3.row_lt.1; omega
    have hHx : H ≤ gx := by have := hS3.1; omega
    have hXl : (sha xa).length = 32 := sha_length _
    obtain ⟨X0, hX0⟩ : ∃ X0, X0 = sha xa := ⟨_, rfl⟩
    have HX0 := Lib.hid hX0
    rw [← hX0] at hRx hXl
    clear hX0 hS3 hB4 ho4 hb4
    go_upto_block 0 with fail
    clear hs4
    go_cut [5] (fun s wr => s = .pointer (some ⟨p, 0, none⟩) ∧ Strm wr H2 p g3 xa ∧ Ext H w wr ∧ Bs wr ab lb cb xb)
    case first =>
      go_wp2_with fail
      go_loopw [8] (fun i wr => ∃ (k : Nat) (L : List UInt8), k ≤ 32 ∧ L.length = 32 ∧ i = .int .i64 k ∧ Row wr gx c4 L ∧ Strm wr H2 p g3 xa ∧ Ext H w wr ∧ Bs wr ab lb cb xb) (fun i _ => 32 - (intOf i).toNat)
      case atStart => exact ⟨0, X0, by omega, hXl, rfl, hRx, hS4, hE, hB⟩
      case round =>
        obtain ⟨k, L, hk, hLl, rfl, hR, hS, hE1, hB1⟩ := hrel
        clear hRx hS4 hE hB
        by_cases hlt : k < 32
        · have hkL : k < L.length := by omega
          have hc := hR.cell k hkL
          have hf := hR.frozen k
          have hcl := hR.len
          have hR2 := hR.set k (L[k] + 1)
          have hL2 : (L.set k (L[k] + 1)).length = 32 := by rw [List.length_set]; exact hLl
          have hadd : ((L[k].toNat : Int) + 1) % 256 = ((L[k] + 1).toNat : Int) := by rw [UInt8.toNat_add]; simp
          have hC := Chg.setCell (S := fun q => q = gx) (p := ⟨gx, k, none⟩) (Chg.refl _ wr) (fun _ => rfl) (.int .u8 ((L[k] + 1).toNat : Int))
          have hS2 := hS.chg hC (fun q hq e => by
            subst e
            rcases hq with hq | hq
            · omega
            · exact hgg hq)
          have hE2 := hE1.setCell (p := ⟨gx, k, none⟩) hHx (.int .u8 ((L[k] + 1).toNat : Int))
          have hB2 := hB1.chg hC (fun h0 ad had hs => by have := HBN.out h0 ad had; omega)
          have HR := Lib.hid (And.intro hL2 hR2)
          clear hR hS hE1 hB1 hC hL2 hR2 hLl
          generalize L.set k (L[k] + 1) = L2 at *
          generalize L[k] + 1 = y at *
          generalize L[k] = x at *
          go_wp2_with fail
          go_roundw
          case rel => exact ⟨k + 1, L2, by omega, HR.out.1, by go_num, HR.out.2, hS2, hE2, hB2⟩
          case measure => simp [intOf]; omega
        · go_wp2_with fail
          go_meet
          exact ⟨rfl, hS, hE1, hB1⟩
    case rest =>
      obtain ⟨rfl, hS, hE, hB⟩ := hcut
      clear hRx hS4
      go_wp2_with fail
      refine (shasum_st H2 p g3 xa _ hS (by omega)).mono ?_
      rintro e w5 ⟨v5, rfl, ho5, hb5⟩
      obtain ⟨a5, c5, rfl, hY5⟩ := ho5.bsn (n := 32) (sha_length _)
      have hYN : ∀ ad, a5 = some ad → ¬ SS p g3 ad.block := by
        intro ad had hs
        rcases ho5.parts with ⟨e, _⟩ | ⟨g, c, e, h2, _⟩
        · injection e with e1 e2 e3; cases e2
        · injection e with e1 e2 e3
          rw [e1] at had; injection had with had; subst had
          rcases hs with hs | hs
          · have := hS.lt; simp at hs; omega
          · subst hs; have h9 : g < _ := hS.row_lt.1; omega
      have hE := hE.step hb5
      have hB5 := hB.below hb5
      have hS5 := hS.below hb5
      clear hS hB hb5 ho5
      go_wp2_with fail
      refine (shawrite_any H2 p g3 xa ab lb cb xb _ hS5 hB5 (fun h0 ad had hs => by
        have h1 := HBN.out h0 ad had
        have h2 := hS5.1
        rcases hs with hs | hs
        · omega
        · subst hs; have h9 : H2 ≤ ad.block := hS5.row_lt.2; omega) (by omega)).mono ?_
      rintro e w6 ⟨rfl, g6, hS6, hC6, _⟩
      have hE := hE.upto ((hS5.belowOf hC6).mono hHH)
      have hY := hY5.chg hC6 (fun _ => hYN)
      have hS := hS6
      have hA := hAw.below (by rw [← HH.out]; exact hE.1)
      have hB := hBw.below (by rw [← HH.out]; exact hE.1)
      have hxyl : (xa ++ xb).length ≤ 1000000 := by rw [List.length_append, hAw.1, hBw.1]; omega
      have HM1 : Hid (([] ++ xa).length = la) := Lib.hid (by simp [hAw.1])
      have HM2 : Hid (([] ++ xa ++ xb).length = la + lb) := Lib.hid (by simp [hAw.1, hBw.1])
      clear hS5 hB5 hC6 hS6 hY5 hYN hxl
      go_upto_region 17 with fail
      obtain ⟨wd, hwd⟩ : ∃ wd, wd = w6.drew := ⟨_, rfl⟩
      have hb : Below w6.heap.size w6 wd := by rw [hwd]; exact (Below.refl _ _).drew
      have hA := hA.below hb
      have hB := hB.below hb
      have hY := hY.below hb
      have hS := hS.below hb
      have hE := hE.step hb
      clear hb
      refine held_start (by kernel_rfl) (fun hHeld => ?_)
      rw [← hwd] at hHeld ⊢
      clear hwd
      refine held_take (i := 0) (v := ?_) 64 rfl (by kernel_rfl) (by kernel_rfl) (by kernel_rfl) (fun _ _ _ h => h) rfl (by assumption) (Or.inl ⟨by rfl, ?_⟩) ?_
      rotate_left
      · intro w hSw; go_simp; (try with_reducible rfl)
      simp only [List.set_cons_zero, List.set_cons_succ]
      refine held_take (i := 1) (v := ?_) 65 rfl (by kernel_rfl) (by kernel_rfl) (by kernel_rfl) (fun _ _ _ h => h) rfl (by assumption) (Or.inl ⟨by rfl, ?_⟩) ?_
      rotate_left
      · intro w hSw; go_simp; (try with_reducible rfl)
      simp only [List.set_cons_zero, List.set_cons_succ]
      refine held_take (i := 2) (v := ?_) 66 rfl (by kernel_rfl) (by kernel_rfl) (by kernel_rfl) (fun _ _ _ h => h) rfl (by assumption) (Or.inl ⟨by rfl, ?_⟩) ?_
      rotate_left
      · intro w hSw; go_simp; (try with_reducible rfl)
      simp only [List.set_cons_zero, List.set_cons_succ]
      refine held_take (i := 3) (v := ?_) 67 rfl (by kernel_rfl) (by kernel_rfl) (by kernel_rfl) (fun _ _ _ h => h) rfl (by assumption) (Or.inl ⟨by rfl, ?_⟩) ?_
      rotate_left
      · intro w hSw; go_simp; (try with_reducible rfl)
      simp only [List.set_cons_zero, List.set_cons_succ]
      refine held_take (i := 4) (v := ?_) 68 rfl (by kernel_rfl) (by kernel_rfl) (by kernel_rfl) (fun _ _ _ h => h) rfl (by assumption) (Or.inl ⟨by rfl, ?_⟩) ?_
      rotate_left
      · intro w hSw; go_simp; (try with_reducible rfl)
      simp only [List.set_cons_zero, List.set_cons_succ]
      refine held_take (i := 5) (v := ?_) 69 rfl (by kernel_rfl) (by kernel_rfl) (by kernel_rfl) (fun _ _ _ h => h) rfl (by assumption) (Or.inl ⟨by rfl, ?_⟩) ?_
      rotate_left
      · intro w hSw; have hs := run_string (hY.below hSw); go_simp; (try with_reducible rfl)
      simp only [List.set_cons_zero, List.set_cons_succ]
      refine held_take (i := 6) (v := ?_) 70 rfl (by kernel_rfl) (by kernel_rfl) (by kernel_rfl) (fun _ _ _ h => h) rfl (by assumption) (Or.inl ⟨by rfl, ?_⟩) ?_
      rotate_left
      · intro w hSw; go_simp; (try with_reducible rfl)
      simp only [List.set_cons_zero, List.set_cons_succ]
      refine held_take (i := 7) (v := ?_) 71 rfl (by kernel_rfl) (by kernel_rfl) (by kernel_rfl) (fun _ _ _ h => h) rfl (by assumption) (Or.inl ⟨by rfl, ?_⟩) ?_
      rotate_left
      · intro w hSw; go_simp; (try with_reducible rfl)
      simp only [List.set_cons_zero, List.set_cons_succ]
      refine held_take (i := 8) (v := ?_) 72 rfl (by kernel_rfl) (by kernel_rfl) (by kernel_rfl) (fun _ _ _ h => h) rfl (by assumption) (Or.inl ⟨by rfl, ?_⟩) ?_
      rotate_left
      · intro w hSw; go_simp; (try with_reducible rfl)
      simp only [List.set_cons_zero, List.set_cons_succ]
      refine held_take (i := 9) (v := ?_) 73 rfl (by kernel_rfl) (by kernel_rfl) (by kernel_rfl) (fun _ _ _ h => h) rfl (by assumption) (Or.inl ⟨by rfl, ?_⟩) ?_
      rotate_left
      · intro w hSw; go_simp; (try with_reducible rfl)
      simp only [List.set_cons_zero, List.set_cons_succ]
      refine held_take (i := 10) (v := ?_) 74 rfl (by kernel_rfl) (by kernel_rfl) (by kernel_rfl) (fun _ _ _ h => h) rfl (by assumption) (Or.inl ⟨by rfl, ?_⟩) ?_
      rotate_left
      · intro w hSw; go_simp; (try with_reducible rfl)
      simp only [List.set_cons_zero, List.set_cons_succ]
      refine held_take (i := 14) (v := ?_) 78 rfl (by kernel_rfl) (by kernel_rfl) (by kernel_rfl) (fun _ _ _ h => h) rfl (by assumption) (Or.inl ⟨by rfl, ?_⟩) ?_
      rotate_left
      · intro w hSw; go_simp; (try with_reducible rfl)
      simp only [List.set_cons_zero, List.set_cons_succ]
      refine held_take (i := 16) (v := ?_) 80 rfl (by kernel_rfl) (by kernel_rfl) (by kernel_rfl) (fun _ _ _ h => h) rfl (by assumption) (Or.inl ⟨by rfl, ?_⟩) ?_
      rotate_left
      · intro w hSw; go_simp; (try with_reducible rfl)
      simp only [List.set_cons_zero, List.set_cons_succ]
      refine wpAnyH_ready (rs := [11, 13]) (by kernel_rfl) (by simp) ?_
      refine (AllReadyH.cons rfl (fun K hK => ?_) (AllReadyH.cons rfl (fun K hK => ?_) AllReadyH.nil))
      · go_simp
        refine (shasum_st H2 p g6 (xa ++ xb) _ (hS.below hHeld) hxyl).mono ?_
        rintro e w1x ⟨v12, rfl, ho12, hb⟩
        have hbt := HB.trans hHeld hb
        have hA := hA.below hbt
        have hB := hB.below hbt
        have hY := hY.below hbt
        have hS := hS.below hbt
        have hE := hE.step hbt
        obtain ⟨a12, c12, rfl, hB12⟩ := ho12.bsn (n := 32) (sha_length _)
        go_wp2_with fail
        refine hK.out _ _ hbt (fun _ => held_next hbt (fun hHeld2 => ?_))
        clear hK hHeld hb hbt K
        have hHeld := hHeld2
        clear hHeld2
        refine held_take (i := 12) (v := ?_) 76 rfl (by kernel_rfl) (by kernel_rfl) (by kernel_rfl) (fun _ _ _ h => h) rfl (by assumption) (Or.inl ⟨by rfl, ?_⟩) ?_
        rotate_left
        · intro w hSw; have hs := run_string (hB12.below hSw); go_simp; (try with_reducible rfl)
        simp only [List.set_cons_zero, List.set_cons_succ]
        refine wpAnyH_ready (rs := [13]) (by kernel_rfl) (by simp) ?_
        refine (AllReadyH.cons rfl (fun K hK => ?_) AllReadyH.nil)
        go_simp
        have hb : HB w1x (w1x.alloc (.cells #[] TB)) := (HB.refl _).alloc _
        have hbt := HB.trans hHeld hb
        have hA := hA.below hbt
        have hB := hB.below hbt
        have hY := hY.below hbt
        have hS := hS.below hbt
        have hE := hE.step hbt
        have hB12 := hB12.below hbt
        have hO13 : Own (w1x.alloc (.cells #[] TB)) 0 (.slice (some ⟨w1x.heap.size, 0, none⟩) 0 0) [] := (Own.empty' w1x).zero
        generalize w1x.alloc (.cells #[] TB) = w2x at *
        refine hK.out _ _ hbt (fun _ => held_next hbt (fun hHeld2 => ?_))
        clear hK hHeld hb hbt K
        have hHeld := hHeld2
        clear hHeld2
        refine wpAnyH_ready (rs := [15]) (by kernel_rfl) (by simp) ?_
        refine (AllReadyH.cons rfl (fun K hK => ?_) AllReadyH.nil)
        refine step_append_fr (by rfl) (.tmp 77) (.tmp 78) rfl _ _ [] ?_ ⟨(hO13.below hHeld).zero, .inr ⟨_, _, rfl⟩⟩ hHeld _ la _ xa ?_ (hA.below hHeld) (by simp; omega) (fun v3x w3x hF hb => ?_)
        rfl
        rfl
        have hF15 := hF
        obtain ⟨a15, c15, rfl, hB15⟩ := hF.1.bsn (n := la) HM1.out
        go_wp2_with fail
        refine hK.out _ _ hb (fun _ => ?_)
        clear hK hHeld K
        have hHeld := hb
        clear hb
        refine wpAnyH_ready (rs := [17]) (by kernel_rfl) (by simp) ?_
        refine (AllReadyH.cons rfl (fun K hK => ?_) AllReadyH.nil)
        refine step_append_fr (by rfl) (.tmp 79) (.tmp 80) rfl _ _ _ ?_ hF15 hHeld _ lb _ xb ?_ (hB.below hHeld) (by rw [HM1.out]; omega) (fun v4x w4x hF hb => ?_)
        rfl
        rfl
        obtain ⟨a17, c17, rfl, hB17⟩ := hF.1.bsn (n := la + lb) HM2.out
        go_wp2_with fail
        refine hK.out _ _ hb (fun _ => ?_)
        clear hK hHeld K
        have hHeld := hb
        clear hb
        refine wpAnyH_ready (rs := [18]) (by kernel_rfl) (by simp) ?_
        refine (AllReadyH.cons rfl (fun K hK => ?_) AllReadyH.nil)
        go_simp
        refine (shasum_any _ _ _ _ _ hB17 (by omega)).mono ?_
        rintro e w5x ⟨v19, rfl, ho19, hb⟩
        have hbt := HB.trans hHeld hb
        have hA := hA.below hbt
        have hB := hB.below hbt
        have hY := hY.below hbt
        have hS := hS.below hbt
        have hE := hE.step hbt
        have hB12 := hB12.below hbt
        have hO13 := hO13.below hbt
        obtain ⟨a19, c19, rfl, hB19⟩ := ho19.bsn (n := 32) (sha_length _)
        go_wp2_with fail
        refine hK.out _ _ hbt (fun _ => held_next hbt (fun hHeld2 => ?_))
        clear hK hHeld hb hbt K
        have hHeld := hHeld2
        clear hHeld2
        refine held_take (i := 19) (v := ?_) 83 rfl (by kernel_rfl) (by kernel_rfl) (by kernel_rfl) (fun _ _ _ h => h) rfl (by assumption) (Or.inl ⟨by rfl, ?_⟩) ?_
        rotate_left
        · intro w hSw; have hs := run_string (hB19.below hSw); go_simp; (try with_reducible rfl)
        simp only [List.set_cons_zero, List.set_cons_succ]
        refine held_take (i := 20) (v := ?_) 84 rfl (by kernel_rfl) (by kernel_rfl) (by kernel_rfl) (fun _ _ _ h => h) rfl (by assumption) (Or.inl ⟨by rfl, ?_⟩) ?_
        rotate_left
        · intro w hSw; go_simp; (try with_reducible rfl)
        simp only [List.set_cons_zero, List.set_cons_succ]
        refine held_take (i := 21) (v := ?_) 85 rfl (by kernel_rfl) (by kernel_rfl) (by kernel_rfl) (fun _ _ _ h => h) rfl (by assumption) (Or.inl ⟨by rfl, ?_⟩) ?_
        rotate_left
        · intro w hSw; go_simp; (try with_reducible rfl)
        simp only [List.set_cons_zero, List.set_cons_succ]
        refine held_take (i := 22) (v := ?_) 86 rfl (by kernel_rfl) (by kernel_rfl) (by kernel_rfl) (fun _ _ _ h => h) rfl (by assumption) (Or.inl ⟨by rfl, ?_⟩) ?_
        rotate_left
        · intro w hSw; go_simp; (try with_reducible rfl)
        simp only [List.set_cons_zero, List.set_cons_succ]
        refine wpAnyH_ready (rs := [23]) (by kernel_rfl) (by simp) ?_
        refine (AllReadyH.cons rfl (fun K hK => ?_) AllReadyH.nil)
        go_simp
        refine (sha_known _).mono ?_
        rintro e w6x ⟨rfl, hb⟩
        have hbt := HB.trans hHeld hb
        have hA := hA.below hbt
        have hB := hB.below hbt
        have hY := hY.below hbt
        have hS := hS.below hbt
        have hE := hE.step hbt
        have hB12 := hB12.below hbt
        have hO13 := hO13.below hbt
        have hB19 := hB19.below hbt
        go_wp2_with fail
        refine hK.out _ _ hbt (fun _ => held_next hbt (fun hHeld2 => ?_))
        clear hK hHeld hb hbt K
        have hHeld := hHeld2
        clear hHeld2
        refine held_take (i := 24) (v := ?_) 88 rfl (by kernel_rfl) (by kernel_rfl) (by kernel_rfl) (fun _ _ _ h => h) rfl (by assumption) (Or.inl ⟨by rfl, ?_⟩) ?_
        rotate_left
        · intro w hSw; go_simp; (try with_reducible rfl)
        simp only [List.set_cons_zero, List.set_cons_succ]
        refine held_take (i := 25) (v := ?_) 4 rfl (by kernel_rfl) (by kernel_rfl) (by kernel_rfl) (fun _ _ _ h => h) rfl (by assumption) (Or.inl ⟨by rfl, ?_⟩) ?_
        rotate_left
        · intro w hSw; go_simp; (try with_reducible rfl)
        simp only [List.set_cons_zero, List.set_cons_succ]
        refine wpAnyH_done (by kernel_rfl) ?_ _
        go_wp2_with fail
        go_ret
        exact ⟨rfl, (hE.step hHeld).1⟩
      · go_simp
        have hb : HB wd (wd.alloc (.cells #[] TB)) := (HB.refl _).alloc _
        have hbt := HB.trans hHeld hb
        have hA := hA.below hbt
        have hB := hB.below hbt
        have hY := hY.below hbt
        have hS := hS.below hbt
        have hE := hE.step hbt
        have hO13 : Own (wd.alloc (.cells #[] TB)) 0 (.slice (some ⟨wd.heap.size, 0, none⟩) 0 0) [] := (Own.empty' wd).zero
        generalize wd.alloc (.cells #[] TB) = w7x at *
        refine hK.out _ _ hbt (fun _ => held_next hbt (fun hHeld2 => ?_))
        clear hK hHeld hb hbt K
        have hHeld := hHeld2
        clear hHeld2
        refine wpAnyH_ready (rs := [11]) (by kernel_rfl) (by simp) ?_
        refine (AllReadyH.cons rfl (fun K hK => ?_) AllReadyH.nil)
        go_simp
        refine (shasum_st H2 p g6 (xa ++ xb) _ (hS.below hHeld) hxyl).mono ?_
        rintro e w8x ⟨v12, rfl, ho12, hb⟩
        have hbt := HB.trans hHeld hb
        have hA := hA.below hbt
        have hB := hB.below hbt
        have hY := hY.below hbt
        have hS := hS.below hbt
        have hE := hE.step hbt
        have hO13 := hO13.below hbt
        obtain ⟨a12, c12, rfl, hB12⟩ := ho12.bsn (n := 32) (sha_length _)
        go_wp2_with fail
        refine hK.out _ _ hbt (fun _ => held_next hbt (fun hHeld2 => ?_))
        clear hK hHeld hb hbt K
        have hHeld := hHeld2
        clear hHeld2
        refine held_take (i := 12) (v := ?_) 76 rfl (by kernel_rfl) (by kernel_rfl) (by kernel_rfl) (fun _ _ _ h => h) rfl (by assumption) (Or.inl ⟨by rfl, ?_⟩) ?_
        rotate_left
        · intro w hSw; have hs := run_string (hB12.below hSw); go_simp; (try with_reducible rfl)
        simp only [List.set_cons_zero, List.set_cons_succ]
        refine wpAnyH_ready (rs := [15]) (by kernel_rfl) (by simp) ?_
        refine (AllReadyH.cons rfl (fun K hK => ?_) AllReadyH.nil)
        refine step_append_fr (by rfl) (.tmp 77) (.tmp 78) rfl _ _ [] ?_ ⟨(hO13.below hHeld).zero, .inr ⟨_, _, rfl⟩⟩ hHeld _ la _ xa ?_ (hA.below hHeld) (by simp; omega) (fun v9x w9x hF hb => ?_)
        rfl
        rfl
        have hF15 := hF
        obtain ⟨a15, c15, rfl, hB15⟩ := hF.1.bsn (n := la) HM1.out
        go_wp2_with fail
        refine hK.out _ _ hb (fun _ => ?_)
        clear hK hHeld K
        have hHeld := hb
        clear hb
        refine wpAnyH_ready (rs := [17]) (by kernel_rfl) (by simp) ?_
        refine (AllReadyH.cons rfl (fun K hK => ?_) AllReadyH.nil)
        refine step_append_fr (by rfl) (.tmp 79) (.tmp 80) rfl _ _ _ ?_ hF15 hHeld _ lb _ xb ?_ (hB.below hHeld) (by rw [HM1.out]; omega) (fun v10x w10x hF hb => ?_)
        rfl
        rfl
        obtain ⟨a17, c17, rfl, hB17⟩ := hF.1.bsn (n := la + lb) HM2.out
        go_wp2_with fail
        refine hK.out _ _ hb (fun _ => ?_)
        clear hK hHeld K
        have hHeld := hb
        clear hb
        refine wpAnyH_ready (rs := [18]) (by kernel_rfl) (by simp) ?_
        refine (AllReadyH.cons rfl (fun K hK => ?_) AllReadyH.nil)
        go_simp
        refine (shasum_any _ _ _ _ _ hB17 (by omega)).mono ?_
        rintro e w11x ⟨v19, rfl, ho19, hb⟩
        have hbt := HB.trans hHeld hb
        have hA := hA.below hbt
        have hB := hB.below hbt
        have hY := hY.below hbt
        have hS := hS.below hbt
        have hE := hE.step hbt
        have hO13 := hO13.below hbt
        have hB12 := hB12.below hbt
        obtain ⟨a19, c19, rfl, hB19⟩ := ho19.bsn (n := 32) (sha_length _)
        go_wp2_with fail
        refine hK.out _ _ hbt (fun _ => held_next hbt (fun hHeld2 => ?_))
        clear hK hHeld hb hbt K
        have hHeld := hHeld2
        clear hHeld2
        refine held_take (i := 19) (v := ?_) 83 rfl (by kernel_rfl) (by kernel_rfl) (by kernel_rfl) (fun _ _ _ h => h) rfl (by assumption) (Or.inl ⟨by rfl, ?_⟩) ?_
        rotate_left
        · intro w hSw; have hs := run_string (hB19.below hSw); go_simp; (try with_reducible rfl)
        simp only [List.set_cons_zero, List.set_cons_succ]
        refine held_take (i := 20) (v := ?_) 84 rfl (by kernel_rfl) (by kernel_rfl) (by kernel_rfl) (fun _ _ _ h => h) rfl (by assumption) (Or.inl ⟨by rfl, ?_⟩) ?_
        rotate_left
        · intro w hSw; go_simp; (try with_reducible rfl)
        simp only [List.set_cons_zero, List.set_cons_succ]
        refine held_take (i := 21) (v := ?_) 85 rfl (by kernel_rfl) (by kernel_rfl) (by kernel_rfl) (fun _ _ _ h => h) rfl (by assumption) (Or.inl ⟨by rfl, ?_⟩) ?_
        rotate_left
        · intro w hSw; go_simp; (try with_reducible rfl)
        simp only [List.set_cons_zero, List.set_cons_succ]
        refine held_take (i := 22) (v := ?_) 86 rfl (by kernel_rfl) (by kernel_rfl) (by kernel_rfl) (fun _ _ _ h => h) rfl (by assumption) (Or.inl ⟨by rfl, ?_⟩) ?_
        rotate_left
        · intro w hSw; go_simp; (try with_reducible rfl)
        simp only [List.set_cons_zero, List.set_cons_succ]
        refine wpAnyH_ready (rs := [23]) (by kernel_rfl) (by simp) ?_
        refine (AllReadyH.cons rfl (fun K hK => ?_) AllReadyH.nil)
        go_simp
        refine (sha_known _).mono ?_
        rintro e w12x ⟨rfl, hb⟩
        have hbt := HB.trans hHeld hb
        have hA := hA.below hbt
        have hB := hB.below hbt
        have hY := hY.below hbt
        have hS := hS.below hbt
        have hE := hE.step hbt
        have hO13 := hO13.below hbt
        have hB12 := hB12.below hbt
        have hB19 := hB19.below hbt
        go_wp2_with fail
        refine hK.out _ _ hbt (fun _ => held_next hbt (fun hHeld2 => ?_))
        clear hK hHeld hb hbt K
        have hHeld := hHeld2
        clear hHeld2
        refine held_take (i := 24) (v := ?_) 88 rfl (by kernel_rfl) (by kernel_rfl) (by kernel_rfl) (fun _ _ _ h => h) rfl (by assumption) (Or.inl ⟨by rfl, ?_⟩) ?_
        rotate_left
        · intro w hSw; go_simp; (try with_reducible rfl)
        simp only [List.set_cons_zero, List.set_cons_succ]
        refine held_take (i := 25) (v := ?_) 4 rfl (by kernel_rfl) (by kernel_rfl) (by kernel_rfl) (fun _ _ _ h => h) rfl (by assumption) (Or.inl ⟨by rfl, ?_⟩) ?_
        rotate_left
        · intro w hSw; go_simp; (try with_reducible rfl)
        simp only [List.set_cons_zero, List.set_cons_succ]
        refine wpAnyH_done (by kernel_rfl) ?_ _
        go_wp2_with fail
        go_ret
        exact ⟨rfl, (hE.step hHeld).1⟩

end Go.Proofs.Ytmjlndfkddacbaa
