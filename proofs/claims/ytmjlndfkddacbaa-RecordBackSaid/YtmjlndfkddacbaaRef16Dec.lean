/- The contract of permafrostref16.Decode. -/
import Derived.Test.YtmjlndfkddacbaaRef16
import Derived.Test.YtmjlndfkddacbaaRecordDecRest
namespace Go.Proofs.Ytmjlndfkddacbaa
open Go.RowKit

theorem badHead_iff (xs : List UInt8) : badHead xs = true ↔ ((rdK xs).2.2 = 0 ∧ (rdK xs).1 ≠ 1 ∧ (rdK xs).1 ≠ 2) := by
  cases xs with
  | nil => simp [badHead, rdK, rdByte, rdRaw]
  | cons x ys =>
    have hx : ∀ n : Nat, n < 256 → ((x.toNat = n) ↔ x = UInt8.ofNat n) := fun n hn => by
      constructor
      · intro h; exact UInt8.toNat_inj.1 (by rw [h, UInt8.toNat_ofNat']; omega)
      · intro h; rw [h, UInt8.toNat_ofNat']; omega
    have h1 := hx 1 (by omega)
    have h2 := hx 2 (by omega)
    have e : rdRaw (x :: ys, 0) 1 = ([x], (ys, 0)) := by
      unfold rdRaw
      rw [if_neg (by simp), if_neg (by simp only [List.length_cons]; omega), if_neg (by omega)]
      rfl
    have e2 : rdK (x :: ys) = (x.toNat, (ys, 0)) := by unfold rdK rdByte; rw [e]; simp [num]
    rw [e2]
    simp only [badHead, Bool.and_eq_true, bne_iff_ne, ne_eq, h1, h2, true_and]
    rfl
/-- four bytes, or a refusal -/
theorem rdRaw4 (s : List UInt8 × Nat) : ((rdRaw s 4).2.2 = 0 ↔ ¬ (rdRaw s 4).1.length < 4) ∧ ((rdRaw s 4).2.2 = 0 → s.2 = 0 ∧ (rdRaw s 4).2.1.length + 4 = s.1.length) := by
  unfold rdRaw
  by_cases hw : s.2 ≠ 0
  · rw [if_pos hw]; simp [hw]
  · rw [if_neg hw]
    by_cases hl : (s.1.length : Int) < 4
    · rw [if_pos hl]; simp
    · rw [if_neg hl, if_neg (by omega)]
      have : s.2 = 0 := by omega
      simp [this]
      omega
theorem rdRaw_why (s : List UInt8 × Nat) (n : Int) (h2 : s.2 = 0 ∨ s.2 = 10) : (rdRaw s n).2.2 = 0 ∨ (rdRaw s n).2.2 = 10 := by
  unfold rdRaw
  repeat' split
  all_goals simp_all

set_option maxHeartbeats 1000000 in
set_option maxRecDepth 100000 in
theorem rdecr_any (a : Option Addr) (len cap : Nat) (xs : List UInt8) (w : World) (h : Bs w a len cap xs) (hl : len ≤ big) :
    Calls Try.prog 47 #[.slice a len cap] w fun e w' => RecPost xs w.heap.size e w' ∧ Below w.heap.size w w' := by
  have hlen := h.1
  obtain ⟨H, hH⟩ : ∃ H, H = w.heap.size := ⟨_, rfl⟩
  have hsz := size_alloc w (.cells #[.int .i64 0, .int .u64 0, .slice none 0 0] 29)
  have hE0 := (Ext.refl w).alloc (.cells #[.int .i64 0, .int .u64 0, .slice none 0 0] 29)
  have h' := h.alloc (.cells #[.int .i64 0, .int .u64 0, .slice none 0 0] 29)
  have C0 := cell_new w #[.int .i64 0, .int .u64 0, .slice none 0 0] 29 0
  have C1 := cell_new w #[.int .i64 0, .int .u64 0, .slice none 0 0] 29 1
  have C2 := cell_new w #[.int .i64 0, .int .u64 0, .slice none 0 0] 29 2
  have F0 := frozen_new w #[.int .i64 0, .int .u64 0, .slice none 0 0] 29 0
  have F1 := frozen_new w #[.int .i64 0, .int .u64 0, .slice none 0 0] 29 1
  have F2 := frozen_new w #[.int .i64 0, .int .u64 0, .slice none 0 0] 29 2
  simp only [List.getElem?_toArray, List.getElem?_cons_zero, List.getElem?_cons_succ] at C0 C1 C2
  rw [← hH] at hE0 hsz C0 C1 C2 F0 F1 F2 ⊢
  have HC := Lib.hid (And.intro C0 (And.intro C1 C2))
  have HF := Lib.hid (And.intro F0 (And.intro F1 F2))
  have HH := Lib.hid hH
  clear C0 C1 C2 F0 F1 F2 hH h
  go_enter Try.func47, Try.ntmps47
  go_upto_region 1 with fail
  rw [← HH.out]
  generalize w.alloc (.cells #[.int .i64 0, .int .u64 0, .slice none 0 0] 29) = w0 at *
  have hR1 := RR.new h' hl
  have hE1 := (Ext.refl w0).alloc (.cells #[.slice a len cap, .int .i64 0, .int .i64 0] 100)
  obtain ⟨q, hq⟩ : ∃ q, q = w0.heap.size := ⟨_, rfl⟩
  have HQ := Lib.hid hq
  have hHq : H < q := by omega
  rw [← hq] at hR1 hE1
  clear hq
  go_upto_region 2 with fail
  rw [← HQ.out]
  generalize w0.alloc (.cells #[.slice a len cap, .int .i64 0, .int .i64 0] 100) = w1 at *
  have hC1 := Lib.hid (rref_byte q q xs (xs, 0) w1 hR1)
  change Hid (Calls _ _ _ _ (fun e w' => e = .returned (.int .i64 ((rdK xs).1 : Nat)) ∧ RRPost w1 q q xs (rdK xs).2 w')) at hC1
  have hC2 := Lib.hid (fun w h => rref_long q q xs (rdK xs).2 w h)
  change Hid (∀ w, _ → Calls _ _ _ _ (fun e w' => e = .returned (.int .u64 ((rdQ xs).1 : Nat)) ∧ RRPost w q q xs (rdQ xs).2 w')) at hC2
  have hC3 := Lib.hid (fun w h => rref_bytes q q xs (rdQ xs).2 w h)
  change Hid (∀ w, _ → Calls _ _ _ _ (fun e w' => ∃ v, e = .returned v ∧ Own w' w.heap.size v (rdB xs).1 ∧ RRPost w q q xs (rdB xs).2 w')) at hC3
  have hkb : (rdK xs).1 < 256 := rdByte_lt _
  have hqb : (rdQ xs).1 < 18446744073709551616 := rdLong_lt _
  have hy1 : (rdK xs).2.2 = 0 ∨ (rdK xs).2.2 = 10 := rdRaw_why _ _ (.inl rfl)
  have hy2 : (rdQ xs).2.2 = 0 ∨ (rdQ xs).2.2 = 10 := rdRaw_why _ _ hy1
  have hy3 : (rdB xs).2.2 = 0 ∨ (rdB xs).2.2 = 10 := rdRaw_why _ _ (rdRaw_why _ _ hy2)
  have HE := Lib.hid (show rdE xs = xs.length - rdLeft (rdB xs).2 from rfl)
  have HW := Lib.hid (show rdW xs = (rdRaw (rdB xs).2 4).1 from rfl)
  have HBH := Lib.hid (badHead_iff xs)
  generalize hkE : (rdK xs).1 = k at *
  generalize (rdK xs).2 = s1 at *
  generalize hqE : (rdQ xs).1 = sq at *
  generalize (rdQ xs).2 = s2 at *
  generalize hbo : (rdB xs).1 = bo at *
  generalize (rdB xs).2 = s3 at *
  have HKQ := Lib.hid (And.intro hkE (And.intro hqE hbo))
  clear hbo hkE hqE
  go_wp2_with fail
  refine hC1.out.mono ?_
  rintro e w2 ⟨rfl, hP⟩
  have hE2 := hE1.to (hP.2.below (by have := hR1.lt; omega) (fun k _ hs => by omega))
  have hR2 := hP.1
  clear hP hE1 hR1 hC1
  have d0 := cell_new w2 #[.int .i64 (k : Int), .int .u64 0, .slice none 0 0] 29 0
  have d1 := cell_new w2 #[.int .i64 (k : Int), .int .u64 0, .slice none 0 0] 29 1
  have d2 := cell_new w2 #[.int .i64 (k : Int), .int .u64 0, .slice none 0 0] 29 2
  have g0 := frozen_new w2 #[.int .i64 (k : Int), .int .u64 0, .slice none 0 0] 29 0
  have g1 := frozen_new w2 #[.int .i64 (k : Int), .int .u64 0, .slice none 0 0] 29 1
  have g2 := frozen_new w2 #[.int .i64 (k : Int), .int .u64 0, .slice none 0 0] 29 2
  have hE3 := hE2.alloc (.cells #[.int .i64 (k : Int), .int .u64 0, .slice none 0 0] 29)
  have hqZ := hR2.lt
  have hR3 := hR2.chg ((Below.refl _ _).alloc (Nat.le_refl _) (.cells #[.int .i64 (k : Int), .int .u64 0, .slice none 0 0] 29))
  have hsz3 := size_alloc w2 (.cells #[.int .i64 (k : Int), .int .u64 0, .slice none 0 0] 29)
  have hZc := heap_alloc_new w2 (.cells #[.int .i64 (k : Int), .int .u64 0, .slice none 0 0] 29)
  obtain ⟨Z, hZ⟩ : ∃ Z, Z = w2.heap.size := ⟨_, rfl⟩
  simp only [List.getElem?_toArray, List.getElem?_cons_zero, List.getElem?_cons_succ] at d0 d1 d2
  rw [← hZ] at d0 d1 d2 g0 g1 g2 hsz3 hqZ hZc
  have HZc := Lib.hid hZc
  clear hZc
  have HZ := Lib.hid hZ
  clear hZ hE2 hR2
  go_upto_region 3 with fail
  rw [← HZ.out]
  generalize w2.alloc (.cells #[.int .i64 (k : Int), .int .u64 0, .slice none 0 0] 29) = w3 at *
  go_cut [29] (fun s wx => s = .bool (badHead xs) ∧ w3 = wx)
  case first =>
    obtain ⟨_, _, a3, c3, hc3, _⟩ := hR3
    obtain ⟨r0, r1, r2, _⟩ := three_cells hc3
    clear hc3
    have hbh := HBH.out
    by_cases hy : s1.2 = 0
    · rw [hy] at r2
      by_cases hk1 : k = 1
      · have e : badHead xs = false := by rw [Bool.eq_false_iff]; intro h; exact (hbh.1 h).2.1 hk1
        have HEB := Lib.hid e
        clear e
        subst hk1
        clear hbh hy hy1 hy2 hy3
        go_wp2_with fail
        go_meet
        exact ⟨by rw [HEB.out], rfl⟩
      · have q1 : ((k : Int) != 1) = true := by rw [bne_iff_ne]; omega
        by_cases hk2 : k = 2
        · have e : badHead xs = false := by rw [Bool.eq_false_iff]; intro h; exact (hbh.1 h).2.2 hk2
          have HEB := Lib.hid e
          clear e
          subst hk2
          clear hbh hy hy1 hy2 hy3 hk1
          go_wp2_with fail
          go_meet
          exact ⟨by rw [HEB.out], rfl⟩
        · have e : badHead xs = true := hbh.2 ⟨hy, hk1, hk2⟩
          have HEB := Lib.hid e
          clear e
          have q2 : ((k : Int) != 2) = true := by rw [bne_iff_ne]; omega
          clear hbh hy hy1 hy2 hy3 hk1 hk2
          go_wp2_with fail
          go_meet
          exact ⟨by rw [HEB.out], rfl⟩
    · have e : badHead xs = false := by rw [Bool.eq_false_iff]; intro h; exact hy (hbh.1 h).1
      have HEB := Lib.hid e
      clear e
      have q0 : ((s1.2 : Int) == 0) = false := by rw [beq_eq_false_iff_ne]; omega
      clear hbh hy hy1 hy2 hy3
      go_wp2_with fail
      go_meet
      exact ⟨by rw [HEB.out], rfl⟩
  case rest =>
    obtain ⟨rfl, rfl⟩ := hcut
    obtain ⟨C0, C1, C2⟩ := HC.out
    obtain ⟨F0, F1, F2⟩ := HF.out
    have hEw := hE0.to (hE3.1.mono (Nat.le_of_lt hHq))
    cases hbh : badHead xs with
    | true =>
      have c0 := hE3.1.cell (p := ⟨H, 0, none⟩) hHq |>.trans C0
      have c1 := hE3.1.cell (p := ⟨H, 1, none⟩) hHq |>.trans C1
      have c2 := hE3.1.cell (p := ⟨H, 2, none⟩) hHq |>.trans C2
      have f0 := hE3.1.frozen (p := ⟨H, 0, none⟩) hHq |>.trans F0
      have f1 := hE3.1.frozen (p := ⟨H, 1, none⟩) hHq |>.trans F1
      have f2 := hE3.1.frozen (p := ⟨H, 2, none⟩) hHq |>.trans F2
      have hRW : recWhy xs = 12 := by unfold recWhy; rw [if_pos hbh]
      have HRW := Lib.hid hRW
      clear hRW hbh C0 C1 C2 F0 F1 F2
      go_wp2_with fail
      refine bodyPost_ret (v := recV 0 0 (.slice none 0 0) 0 12) (by simp [results, Try.results47, go_sem, recV, c0, c1, c2]) rfl ⟨.inr ⟨by rw [HRW.out]; decide, by rw [HRW.out]; rfl⟩, ?_⟩
      exact (((hEw.setCell (Nat.le_refl _) _).setCell (Nat.le_refl _) _).setCell (Nat.le_refl _) _).1
    | false =>
      have hWY : recWhy xs = if (rdW xs).length < 4 then 10 else if rdW xs ≠ be (crcMore 0 (xs.take (rdE xs))) 4 then 14 else if ¬ RecOk (k : Int) sq bo.length then 12 else 0 := by unfold recWhy; rw [hbh, if_neg (by simp), HKQ.out.1, HKQ.out.2.1, HKQ.out.2.2]
      have HWY := Lib.hid hWY
      clear hWY hbh C0 C1 C2 F0 F1 F2
      go_wp2_with fail
      refine (hC2.out _ hR3).mono ?_
      rintro e w4 ⟨rfl, hP⟩
      have hZ4 := (hP.2.block Z hsz3 (by omega)).trans HZc.out
      have hR4 := hP.1
      have hE4 := hE3.to (hP.2.below (B := q) (by omega) (fun k _ hs => by omega))
      have hsz4 : Z < w4.heap.size := Nat.lt_of_lt_of_le hsz3 hP.2.size
      obtain ⟨d0, d1, d2, g0, g1, g2⟩ := three_cells hZ4
      clear hP hR3 hE3
      have hZ5 := three_set1 (y := .int .u64 (sq : Int)) hZ4
      have hR5 := hR4.set (i := 1) hqZ (.int .u64 (sq : Int))
      have hE5 := hE4.setCell (p := ⟨Z, 1, none⟩) (Nat.le_of_lt hqZ) (.int .u64 (sq : Int))
      have hsz5 : Z < (w4.setCell ⟨Z, 1, none⟩ (.int .u64 (sq : Int))).heap.size := by simpa [World.setCell] using hsz4
      have HC3 := Lib.hid (hC3.out _ hR5)
      have HZ5 := Lib.hid hZ5
      clear hZ5 hR4 hE4 hZ4 hsz4
      go_wp2_with fail
      generalize w4.setCell ⟨Z, 1, none⟩ (.int .u64 (sq : Int)) = w5 at *
      refine HC3.out.mono ?_
      rintro e w6 ⟨v, rfl, ho, hP⟩
      have hob : ∀ k, v.ownBlock = some k → k ≠ Z ∧ q < k := by
        intro k hk
        have := hR5.lt
        rcases ho.parts with ⟨h1, _⟩ | ⟨g, c, h1, h2, h3⟩
        · rw [h1] at hk; simp [Value.ownBlock] at hk
        · rw [h1] at hk; simp [Value.ownBlock] at hk; omega
      obtain ⟨av, cv, rfl, _⟩ := ho.bs
      have hZ6 := (hP.2.block Z hsz5 (by omega)).trans HZ5.out
      have hR6 := hP.1
      have hE6 := hE5.to (hP.2.below (B := q) (by omega) (fun k _ hs => by omega))
      have hsz6 : Z < w6.heap.size := Nat.lt_of_lt_of_le hsz5 hP.2.size
      clear d0 d1 d2 g0 g1 g2 hP hR5 hE5 HC3 HZ5
      obtain ⟨d0, d1, d2, g0, g1, g2⟩ := three_cells hZ6
      have hZ7 := three_set2 (y := .slice av bo.length cv) hZ6
      have hR7 := hR6.set (i := 2) hqZ (.slice av bo.length cv)
      have hE7 := hE6.setCell (p := ⟨Z, 2, none⟩) (Nat.le_of_lt hqZ) (.slice av bo.length cv)
      have hsz7 : Z < (w6.setCell ⟨Z, 2, none⟩ (.slice av bo.length cv)).heap.size := by simpa [World.setCell] using hsz6
      have hO7 : Own (w6.setCell ⟨Z, 2, none⟩ (.slice av bo.length cv)) q (.slice av bo.length cv) bo := by
        rcases ho.parts with ⟨h1, h2⟩ | ⟨g, c, h1, h2, h3⟩
        · rw [h1, h2]; exact Own.nil _ _
        · rw [h1]; exact Own.of_row (h3.setOther (a := ⟨Z, 2, none⟩) (by have := hob g (by rw [h1]; rfl); show g ≠ Z; omega) _) (by have := hob g (by rw [h1]; rfl); omega)
      have HZ7 := Lib.hid hZ7
      clear hZ7 hR6 hE6 hZ6 hsz6 ho
      go_upto_region 7 with fail
      generalize w6.setCell ⟨Z, 2, none⟩ (.slice av bo.length cv) = w7 at *
      have hat : ((xs.length - s3.1.length : Nat) : Int) = ((xs.length - s3.1.length : Nat) : Int) := rfl
      have hCR := Lib.hid (rref_raw q q xs s3.1 s3.2 4 w7 hR7 (by omega))
      have h4 := rdRaw4 s3
      have hWl : (rdRaw s3 4).1.length ≤ 4 := rdRaw_len s3 4
      obtain ⟨_, _, a7, c7, hc7, _, hle7, _⟩ := hR7
      obtain ⟨r0, r1, r2, _⟩ := three_cells hc7
      obtain ⟨at0, hat0⟩ : ∃ at0, at0 = xs.length - s3.1.length := ⟨_, rfl⟩
      rw [← hat0] at r1
      have HAT := Lib.hid hat0
      have H4 := Lib.hid h4
      have HW4 := Lib.hid hWl
      clear hc7 hat hat0 h4 hWl
      go_wp2_with fail
      refine hCR.out.mono ?_
      rintro e w8 ⟨vw, rfl, hoW, hP⟩
      have hZ8 := (hP.2.block Z hsz7 (by omega)).trans HZ7.out
      have hR8 := hP.1
      have hE8 := hE7.to (hP.2.below (B := q) (by omega) (fun k _ hs => by omega))
      have hsz8 : Z < w8.heap.size := Nat.lt_of_lt_of_le hsz7 hP.2.size
      have hO8 : Own w8 q (.slice av bo.length cv) bo := hP.2.own hO7 (fun k hk e => by have := hob k hk; omega)
      obtain ⟨aw, cw, rfl, hBW⟩ := hoW.bs
      clear hP r0 r1 r2 hE7 hoW hO7 hsz7 hCR HZ7 d0 d1 d2 g0 g1 g2
      obtain ⟨d0, d1, d2, g0, g1, g2⟩ := three_cells hZ8
      have hc0 := hE8.1.cell (p := ⟨H, 0, none⟩) hHq |>.trans HC.out.1
      have hc1 := hE8.1.cell (p := ⟨H, 1, none⟩) hHq |>.trans HC.out.2.1
      have hc2 := hE8.1.cell (p := ⟨H, 2, none⟩) hHq |>.trans HC.out.2.2
      have hf0 := hE8.1.frozen (p := ⟨H, 0, none⟩) hHq |>.trans HF.out.1
      have hf1 := hE8.1.frozen (p := ⟨H, 1, none⟩) hHq |>.trans HF.out.2.1
      have hf2 := hE8.1.frozen (p := ⟨H, 2, none⟩) hHq |>.trans HF.out.2.2
      obtain ⟨_, _, a8, c8, hc8, _, hle8, _⟩ := hR8
      obtain ⟨r0, r1, r2, _⟩ := three_cells hc8
      clear hc8
      have hEw := hE0.to (hE8.1.mono (Nat.le_of_lt hHq))
      have hB8 := h'.below (hE8.1.mono (by have := HQ.out; omega))
      obtain ⟨h41, h42⟩ := H4.out
      have hWR : rdW xs = (rdRaw s3 4).1 := HW.out
      have hW4 := HW4.out
      generalize hWe : (rdRaw s3 4).1 = W at *
      generalize hse : (rdRaw s3 4).2 = s4 at *
      by_cases hy : s4.2 = 0
      · obtain ⟨hy3', hl4⟩ := h42 hy
        have hwl : W.length = 4 := by have := h41.1 hy; omega
        have hen : rdE xs = at0 := by rw [HE.out, HAT.out]; unfold rdLeft; rw [if_neg (by omega)]
        have hRW := HWY.out
        rw [hWR, if_neg (by omega), hen] at hRW
        have hat : at0 ≤ len := by rw [HAT.out]; omega
        rw [hy] at r2
        have hat4 : xs.length - s4.1.length = at0 + 4 := by rw [HAT.out]; omega
        rw [hat4] at r1
        have hBT := hB8.take (k := at0) hat
        have hSL : (be (crcMore 0 (xs.take at0)) 4).length = 4 := be_length _ _
        have hcl := crcMore_lt 0 (xs.take at0)
        have HSM := Lib.hid (fun w h => refsum_any a at0 cap (xs.take at0) w h)
        have HS4 := Lib.hid (fun w => ref_sum4 none 0 0 [] (crcMore 0 (xs.take at0)) w (Bs.nil _) (by unfold big; decide) (by omega))
        rw [List.nil_append] at HS4
        generalize crcMore 0 (xs.take at0) = cs at *
        generalize hSe : be cs 4 = S at *
        have HRW := Lib.hid hRW
        have HEN := Lib.hid hen
        have hBW4 := hBW
        rw [hwl] at hBW4
        clear hRW hWR h41 h42 hW4 hWe hse hy H4 HW4 hl4 hat4 hen hy3' hBW hSe
        go_upto_region 11 with fail
        go_cut [57] (fun s wx => s = .bool (decide (W ≠ S)) ∧ Ext w8.heap.size w8 wx)
        case first =>
          have hs0 := run_string hBW4.drew
          have q1 : (0 : Int) ≤ (at0 : Int) := by omega
          have q2 : (at0 : Int) ≤ (cap : Int) := by have := hB8.2.1; omega
          have q3 : at0 ≤ cap := by omega
          go_region_with ((first
            | (go_at_call 43; refine (HSM.out _ hBT.drew).mono ?_; rintro e w9 ⟨rfl, rfl⟩)
            | (go_at_call 42; refine (HS4.out _).mono ?_; rintro e w9 ⟨v9, rfl, ho9, hb9⟩; obtain ⟨a9, c9, rfl, hB9⟩ := ho9.bsn hSL; have hE9 := (Ext.refl w8).drew.step hb9; have hs1 := run_string hB9; have hs2 := run_string (hBW4.drew.below hb9))))
          all_goals (go_wp2_with fail; go_meet; refine ⟨congrArg Value.bool ?_, ?_⟩)
          all_goals first | exact hE9 | exact strOf_ne _ _
        case rest =>
          obtain ⟨rfl, hEc⟩ := hcut
          have HD := Lib.hid (And.intro d0 (And.intro d1 d2))
          have HHC := Lib.hid (And.intro hc0 (And.intro hc1 hc2))
          have HHF := Lib.hid (And.intro hf0 (And.intro hf1 hf2))
          have HR1 := Lib.hid r1
          have hHl : H < w8.heap.size := by omega
          have hql : q < w8.heap.size := by omega
          clear d0 d1 d2 hc0 hc1 hc2 hf0 hf1 hf2 r0 r1 r2 g0 g1 g2
          by_cases hWS : W = S
          · have e1 : decide (W ≠ S) = false := by simp [hWS]
            have hRW := HRW.out
            rw [if_neg (by simp [hWS])] at hRW
            have d0 := hEc.cel hsz8 HD.out.1
            have d1 := hEc.cel hsz8 HD.out.2.1
            have d2 := hEc.cel hsz8 HD.out.2.2
            have HR := Lib.hid (rright_any (k : Int) sq av bo.length cv)
            rw [e1]
            have HRW := Lib.hid hRW
            clear hRW hWS e1
            go_wp2_with fail
            refine (HR.out _).mono ?_
            rintro e w10 ⟨rfl, hb10⟩
            have hEd := hEc.step hb10
            clear d0 d1 d2
            have d0 := hEd.cel hsz8 HD.out.1
            have d1 := hEd.cel hsz8 HD.out.2.1
            have d2 := hEd.cel hsz8 HD.out.2.2
            have c0 := hEd.cel hHl HHC.out.1
            have c1 := hEd.cel hHl HHC.out.2.1
            have c2 := hEd.cel hHl HHC.out.2.2
            have f0 := hEd.frz hHl HHF.out.1
            have f1 := hEd.frz hHl HHF.out.2.1
            have f2 := hEd.frz hHl HHF.out.2.2
            have r1 := hEd.cel hql HR1.out
            have hEz := hEw.to (hEd.1.mono (Nat.le_of_lt hHl))
            by_cases hok : RecOk (k : Int) sq bo.length
            · have HOK := Lib.hid (decide_eq_true hok)
              rw [HOK.out]
              have hRW := HRW.out
              rw [if_neg (fun h => h hok)] at hRW
              have HRW := Lib.hid hRW
              clear hRW hok
              go_upto_region 15 with fail
              have hO10 := hO8.below (hEd.1.mono (Nat.le_refl _))
              go_region
              go_wp2_with fail
              refine bodyPost_ret (v := recV (k : Int) sq (.slice av bo.length cv) ((at0 : Int) + 4) 0) (by simp [results, Try.results47, go_sem, recV, c0, c1, c2]) rfl ⟨.inl ⟨by rw [HRW.out], .slice av bo.length cv, ?_, ?_⟩, ?_⟩
              · rw [HKQ.out.1, HKQ.out.2.1, HEN.out]
              · rw [HKQ.out.2.2]
                rcases hO10.parts with ⟨h1, h2⟩ | ⟨g, c, h1, h2, h3⟩
                · rw [h1, h2]; exact Own.nil _ _
                · rw [h1]; exact Own.of_row (((h3.setOther (a := ⟨H, 0, none⟩) (by show g ≠ H; omega) _).setOther (a := ⟨H, 1, none⟩) (by show g ≠ H; omega) _).setOther (a := ⟨H, 2, none⟩) (by show g ≠ H; omega) _).drew (by omega)
              · exact (((hEz.setCell (Nat.le_refl _) _).setCell (Nat.le_refl _) _).setCell (Nat.le_refl _) _).1.drew
            · have HOK := Lib.hid (decide_eq_false hok)
              rw [HOK.out]
              have hRW := HRW.out
              rw [if_pos hok] at hRW
              have HRW := Lib.hid hRW
              clear hRW hok
              go_wp2_with fail
              refine bodyPost_ret (v := recV 0 0 (.slice none 0 0) 0 12) (by simp [results, Try.results47, go_sem, recV, c0, c1, c2]) rfl ⟨.inr ⟨by rw [HRW.out]; decide, by rw [HRW.out]; rfl⟩, ?_⟩
              exact (((hEz.setCell (Nat.le_refl _) _).setCell (Nat.le_refl _) _).setCell (Nat.le_refl _) _).1
          · have e1 : decide (W ≠ S) = true := by simp [hWS]
            have hRW := HRW.out
            rw [if_pos (by simp [hWS])] at hRW
            have c0 := hEc.cel hHl HHC.out.1
            have c1 := hEc.cel hHl HHC.out.2.1
            have c2 := hEc.cel hHl HHC.out.2.2
            have f0 := hEc.frz hHl HHF.out.1
            have f1 := hEc.frz hHl HHF.out.2.1
            have f2 := hEc.frz hHl HHF.out.2.2
            have hEz := hEw.to (hEc.1.mono (Nat.le_of_lt hHl))
            rw [e1]
            have HRW := Lib.hid hRW
            clear hRW hWS e1
            go_wp2_with fail
            refine bodyPost_ret (v := recV 0 0 (.slice none 0 0) 0 14) (by simp [results, Try.results47, go_sem, recV, c0, c1, c2]) rfl ⟨.inr ⟨by rw [HRW.out]; decide, by rw [HRW.out]; rfl⟩, ?_⟩
            exact (((hEz.setCell (Nat.le_refl _) _).setCell (Nat.le_refl _) _).setCell (Nat.le_refl _) _).1
      · have hw4 : W.length < 4 := by rcases Nat.lt_or_ge W.length 4 with h | h; · exact h
                                      · exact absurd (h41.2 (by omega)) hy
        have hRW := HWY.out
        rw [hWR, if_pos hw4] at hRW
        have HRW := Lib.hid hRW
        have e1 : ((s4.2 : Int) != 0) = true := by rw [bne_iff_ne]; omega
        clear hRW hWR h41 h42 hW4 hWe hse hy hw4 H4 HW4
        go_wp2_with fail
        refine bodyPost_ret (v := recV 0 0 (.slice none 0 0) 0 10) (by simp [results, Try.results47, go_sem, recV, hc0, hc1, hc2]) rfl ⟨.inr ⟨by rw [HRW.out]; decide, by rw [HRW.out]; rfl⟩, ?_⟩
        exact (((hEw.setCell (Nat.le_refl _) _).setCell (Nat.le_refl _) _).setCell (Nat.le_refl _) _).1
end Go.Proofs.Ytmjlndfkddacbaa
