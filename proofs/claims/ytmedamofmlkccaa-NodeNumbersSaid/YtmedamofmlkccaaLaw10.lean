/- The law's own functions of chapter 10: read, same. -/
import Derived.Test.YtmedamofmlkccaaRef10
import Derived.Test.YtmedamofmlkccaaNodeBackWalk
import Derived.Test.YtmedamofmlkccaaHeld
import Derived.Deep.DeepCutAuto
namespace Go.Proofs.Ytmedamofmlkccaa
open Go.RowKit

set_option maxHeartbeats 1000000 in
set_option maxRecDepth 100000 in
theorem law10_read (a : Option Addr) (len cap : Nat) (xs : List UInt8) (w : World) (h : Bs w a len cap xs) (hl : len ≤ big) :
    Calls Try.prog 40 #[.slice a len cap] w fun e w' => e = .returned (.bool true) ∧ Below w.heap.size w w' := by
  go_enter Try.func40, Try.ntmps40
  go_wp2_with fail
  refine (ndec_any a len cap xs w h hl).mono ?_
  rintro e w1 ⟨rfl, hb1⟩
  have hE1 := (Ext.refl w).step hb1
  have h1 := h.below hb1
  have HC2 := Lib.hid (fun w h => rndec_any a len cap xs w h hl)
  unfold decV at HC2 ⊢
  generalize (ndDec xs).getD zeroNd = n at *
  generalize (if (ndDec xs).isSome then (0 : Int) else 12) = en at *
  have he := Lib.hid (fun w => nd_eql_self n w)
  obtain ⟨i, k, l, s, t, c⟩ := n
  unfold Nd.cells at HC2 he ⊢
  simp only at HC2 he ⊢
  have C := cell_new w1 #[.int .i64 i, .int .i64 k, .int .i64 l, .int .i64 s, .int .u64 (t : Int), .bool c] 59
  have c0 := C 0; have c1 := C 1; have c2 := C 2; have c3 := C 3; have c4 := C 4; have c5 := C 5
  simp only [List.getElem?_toArray, List.getElem?_cons_zero, List.getElem?_cons_succ] at c0 c1 c2 c3 c4 c5
  have hs := size_alloc w1 (.cells #[.int .i64 i, .int .i64 k, .int .i64 l, .int .i64 s, .int .u64 (t : Int), .bool c] 59)
  have hE2 := hE1.alloc (.cells #[.int .i64 i, .int .i64 k, .int .i64 l, .int .i64 s, .int .u64 (t : Int), .bool c] 59)
  have h2 := h1.alloc (.cells #[.int .i64 i, .int .i64 k, .int .i64 l, .int .i64 s, .int .u64 (t : Int), .bool c] 59)
  obtain ⟨H, hH⟩ : ∃ H, H = w1.heap.size := ⟨_, rfl⟩
  rw [← hH] at c0 c1 c2 c3 c4 c5 hs
  have HH := Lib.hid hH
  clear hH C h1 hE1 hb1
  go_upto_region 2 with fail
  rw [← HH.out]
  generalize w1.alloc (.cells #[.int .i64 i, .int .i64 k, .int .i64 l, .int .i64 s, .int .u64 (t : Int), .bool c] 59) = w2 at *
  go_wp2_with fail
  refine (HC2.out _ h2).mono ?_
  rintro e w3 ⟨rfl, hb3⟩
  have hE3 := hE2.step hb3
  have c0 := (hb3.cell (p := ⟨H, 0, none⟩) hs).trans c0
  have c1 := (hb3.cell (p := ⟨H, 1, none⟩) hs).trans c1
  have c2 := (hb3.cell (p := ⟨H, 2, none⟩) hs).trans c2
  have c3 := (hb3.cell (p := ⟨H, 3, none⟩) hs).trans c3
  have c4 := (hb3.cell (p := ⟨H, 4, none⟩) hs).trans c4
  have c5 := (hb3.cell (p := ⟨H, 5, none⟩) hs).trans c5
  have hs := Nat.lt_of_lt_of_le hs hb3.size
  have hE4 := hE3.alloc (.cells #[.int .i64 i, .int .i64 k, .int .i64 l, .int .i64 s, .int .u64 (t : Int), .bool c] 59)
  have he := he.out
  clear HC2 h2 hE2 hb3
  go_wp2_with fail
  go_ret
  exact ⟨rfl, hE4.1⟩

set_option maxHeartbeats 4000000 in
set_option maxRecDepth 100000 in
theorem law10_same (n : Nd) (w : World) :
    Calls Try.prog 39 #[.agg n.cells] w fun e w' => e = .returned (.bool true) ∧ Below w.heap.size w w' := by
  have HE := Lib.hid (fun w => nenc_any n w)
  have HE2 := Lib.hid (fun w => rnenc_any n w)
  have HR := Lib.hid (fun w => rnright_any n w)
  have HR2 := Lib.hid (fun w => nright_any n w)
  have hL := n.rbytes_len
  by_cases hok : n.Ok
  · rw [if_pos hok, if_pos hok] at HE
    rw [decide_eq_true hok] at HR HR2
    rw [← n.rbytes_eq hok] at HE
    clear hok
    generalize n.rbytes = L at *
    obtain ⟨i, k, l, s, t, c⟩ := n
    unfold Nd.cells at HE HE2 HR HR2 ⊢
    simp only at HE HE2 HR HR2 ⊢
    have C := cell_new w #[.int .i64 i, .int .i64 k, .int .i64 l, .int .i64 s, .int .u64 (t : Int), .bool c] 59
    have c0 := C 0; have c1 := C 1; have c2 := C 2; have c3 := C 3; have c4 := C 4; have c5 := C 5
    simp only [List.getElem?_toArray, List.getElem?_cons_zero, List.getElem?_cons_succ] at c0 c1 c2 c3 c4 c5
    have hs := size_alloc w (.cells #[.int .i64 i, .int .i64 k, .int .i64 l, .int .i64 s, .int .u64 (t : Int), .bool c] 59)
    have hE0 := (Ext.refl w).alloc (.cells #[.int .i64 i, .int .i64 k, .int .i64 l, .int .i64 s, .int .u64 (t : Int), .bool c] 59)
    obtain ⟨H, hH⟩ : ∃ H, H = w.heap.size := ⟨_, rfl⟩
    rw [← hH] at c0 c1 c2 c3 c4 c5 hs hE0 ⊢
    have HH := Lib.hid hH
    clear hH C
    go_enter Try.func39, Try.ntmps39
    go_upto_region 1 with fail
    rw [← HH.out]
    generalize w.alloc (.cells #[.int .i64 i, .int .i64 k, .int .i64 l, .int .i64 s, .int .u64 (t : Int), .bool c] 59) = w0 at *
    go_wp2_with fail
    refine (HE.out _).mono ?_
    rintro e w1 ⟨v1, rfl, ho1, hb1⟩
    obtain ⟨a1, k1, rfl, hL1⟩ := ho1.bsn hL
    have hE1 := hE0.to (hb1.mono (Nat.le_of_lt hs))
    have c0 := (hb1.cell (p := ⟨H, 0, none⟩) hs).trans c0
    have c1 := (hb1.cell (p := ⟨H, 1, none⟩) hs).trans c1
    have c2 := (hb1.cell (p := ⟨H, 2, none⟩) hs).trans c2
    have c3 := (hb1.cell (p := ⟨H, 3, none⟩) hs).trans c3
    have c4 := (hb1.cell (p := ⟨H, 4, none⟩) hs).trans c4
    have c5 := (hb1.cell (p := ⟨H, 5, none⟩) hs).trans c5
    have hs1 := Nat.lt_of_lt_of_le hs hb1.size
    clear HE ho1 hE0 hb1 hs
    go_wp2_with fail
    refine (HR.out _).mono ?_
    rintro e w4 ⟨rfl, hb4⟩
    have hE4 := hE1.step hb4
    have c0 := (hb4.cell (p := ⟨H, 0, none⟩) hs1).trans c0
    have c1 := (hb4.cell (p := ⟨H, 1, none⟩) hs1).trans c1
    have c2 := (hb4.cell (p := ⟨H, 2, none⟩) hs1).trans c2
    have c3 := (hb4.cell (p := ⟨H, 3, none⟩) hs1).trans c3
    have c4 := (hb4.cell (p := ⟨H, 4, none⟩) hs1).trans c4
    have c5 := (hb4.cell (p := ⟨H, 5, none⟩) hs1).trans c5
    have hs4 := Nat.lt_of_lt_of_le hs1 hb4.size
    have hL4 := hL1.below hb4
    clear hE1 hL1 hs1 hb4
    go_upto_region 4 with fail
    obtain ⟨wd, hwd⟩ : ∃ wd, wd = w4.drew := ⟨_, rfl⟩
    have hb : Below w4.heap.size w4 wd := by rw [hwd]; exact (Below.refl _ _).drew
    have c0 := (hb.cell (p := ⟨H, 0, none⟩) hs4).trans c0
    have c1 := (hb.cell (p := ⟨H, 1, none⟩) hs4).trans c1
    have c2 := (hb.cell (p := ⟨H, 2, none⟩) hs4).trans c2
    have c3 := (hb.cell (p := ⟨H, 3, none⟩) hs4).trans c3
    have c4 := (hb.cell (p := ⟨H, 4, none⟩) hs4).trans c4
    have c5 := (hb.cell (p := ⟨H, 5, none⟩) hs4).trans c5
    have hs4 := Nat.lt_of_lt_of_le hs4 hb.size
    have hL4 := hL4.below hb
    have hE4 := hE4.step hb
    clear hb
    refine held_start (by kernel_rfl) (fun hHeld => ?_)
    rw [← hwd] at hHeld ⊢
    clear hwd
    refine held_take (i := 0) (v := ?_) 25 rfl (by kernel_rfl) (by kernel_rfl) (by kernel_rfl) (fun _ _ _ h => h) rfl (by assumption) (Or.inl ⟨by rfl, ?_⟩) ?_
    rotate_left
    · intro w hSw; go_simp; (try with_reducible rfl)
    simp only [List.set_cons_zero, List.set_cons_succ]
    refine held_take (i := 1) (v := ?_) 26 rfl (by kernel_rfl) (by kernel_rfl) (by kernel_rfl) (fun _ _ _ h => h) rfl (by assumption) (Or.inl ⟨by rfl, ?_⟩) ?_
    rotate_left
    · intro w hSw; have hs := run_string (hL4.below hSw); go_simp; (try with_reducible rfl)
    simp only [List.set_cons_zero, List.set_cons_succ]
    refine held_take (i := 2) (v := ?_) 27 rfl (by kernel_rfl) (by kernel_rfl) (by kernel_rfl) (fun _ _ _ h => h) rfl (by assumption) (Or.inl ⟨by rfl, ?_⟩) ?_
    rotate_left
    · intro w hSw; obtain ⟨hc, hf⟩ := bcell hSw; go_simp; (try with_reducible rfl)
    simp only [List.set_cons_zero, List.set_cons_succ]
    refine wpAnyH_ready (rs := [3]) (by kernel_rfl) (by simp) ?_
    refine AllReadyH.cons rfl (fun K hK => ?_) AllReadyH.nil
    go_simp
    refine (HE2.out _).mono ?_
    rintro e w5 ⟨v5, rfl, ho5, hb⟩
    have c0 := (hb.cell (p := ⟨H, 0, none⟩) hs4).trans c0
    have c1 := (hb.cell (p := ⟨H, 1, none⟩) hs4).trans c1
    have c2 := (hb.cell (p := ⟨H, 2, none⟩) hs4).trans c2
    have c3 := (hb.cell (p := ⟨H, 3, none⟩) hs4).trans c3
    have c4 := (hb.cell (p := ⟨H, 4, none⟩) hs4).trans c4
    have c5 := (hb.cell (p := ⟨H, 5, none⟩) hs4).trans c5
    have hs4 := Nat.lt_of_lt_of_le hs4 hb.size
    have hL4 := hL4.below hb
    have hE4 := hE4.step hb
    obtain ⟨a5, k5, rfl, hB5⟩ := ho5.bsn hL
    go_wp2_with fail
    refine hK.out _ _ hb (fun _ => held_next hb (fun hHeld2 => ?_))
    clear hK hHeld hb
    have hHeld := hHeld2
    clear hHeld2 K
    refine held_take (i := 4) (v := ?_) 29 rfl (by kernel_rfl) (by kernel_rfl) (by kernel_rfl) (fun _ _ _ h => h) rfl (by assumption) (Or.inl ⟨by rfl, ?_⟩) ?_
    rotate_left
    · intro w hSw; have hs := run_string (hB5.below hSw); go_simp; (try with_reducible rfl)
    simp only [List.set_cons_zero, List.set_cons_succ]
    refine held_take (i := 5) (v := ?_) 30 rfl (by kernel_rfl) (by kernel_rfl) (by kernel_rfl) (fun _ _ _ h => h) rfl (by assumption) (Or.inl ⟨by rfl, ?_⟩) ?_
    rotate_left
    · intro w hSw; go_simp; (try with_reducible rfl)
    simp only [List.set_cons_zero, List.set_cons_succ]
    refine held_take (i := 6) (v := ?_) 31 rfl (by kernel_rfl) (by kernel_rfl) (by kernel_rfl) (fun _ _ _ h => h) rfl (by assumption) (Or.inl ⟨by rfl, ?_⟩) ?_
    rotate_left
    · intro w hSw; go_simp; (try with_reducible rfl)
    simp only [List.set_cons_zero, List.set_cons_succ]
    refine held_take (i := 7) (v := ?_) 32 rfl (by kernel_rfl) (by kernel_rfl) (by kernel_rfl) (fun _ _ _ h => h) rfl (by assumption) (Or.inl ⟨by rfl, ?_⟩) ?_
    rotate_left
    · intro w hSw; go_simp; (try with_reducible rfl)
    simp only [List.set_cons_zero, List.set_cons_succ]
    refine held_take (i := 8) (v := ?_) 33 rfl (by kernel_rfl) (by kernel_rfl) (by kernel_rfl) (fun _ _ _ h => h) rfl (by assumption) (Or.inl ⟨by rfl, ?_⟩) ?_
    rotate_left
    · intro w hSw; go_simp; (try with_reducible rfl)
    simp only [List.set_cons_zero, List.set_cons_succ]
    refine held_take (i := 9) (v := ?_) 34 rfl (by kernel_rfl) (by kernel_rfl) (by kernel_rfl) (fun _ _ _ h => h) rfl (by assumption) (Or.inl ⟨by rfl, ?_⟩) ?_
    rotate_left
    · intro w hSw; go_simp; (try with_reducible rfl)
    simp only [List.set_cons_zero, List.set_cons_succ]
    refine held_take (i := 10) (v := ?_) 35 rfl (by kernel_rfl) (by kernel_rfl) (by kernel_rfl) (fun _ _ _ h => h) rfl (by assumption) (Or.inl ⟨by rfl, ?_⟩) ?_
    rotate_left
    · intro w hSw; go_simp; (try with_reducible rfl)
    simp only [List.set_cons_zero, List.set_cons_succ]
    refine held_take (i := 11) (v := ?_) 36 rfl (by kernel_rfl) (by kernel_rfl) (by kernel_rfl) (fun _ _ _ h => h) rfl (by assumption) (Or.inl ⟨by rfl, ?_⟩) ?_
    rotate_left
    · intro w hSw; obtain ⟨hc, hf⟩ := bcell hSw; go_simp; (try with_reducible rfl)
    simp only [List.set_cons_zero, List.set_cons_succ]
    refine wpAnyH_ready (rs := [12]) (by kernel_rfl) (by simp) ?_
    refine AllReadyH.cons rfl (fun K hK => ?_) AllReadyH.nil
    go_simp
    refine (HR2.out _).mono ?_
    rintro e w6 ⟨rfl, hb⟩
    have c0 := (hb.cell (p := ⟨H, 0, none⟩) hs4).trans c0
    have c1 := (hb.cell (p := ⟨H, 1, none⟩) hs4).trans c1
    have c2 := (hb.cell (p := ⟨H, 2, none⟩) hs4).trans c2
    have c3 := (hb.cell (p := ⟨H, 3, none⟩) hs4).trans c3
    have c4 := (hb.cell (p := ⟨H, 4, none⟩) hs4).trans c4
    have c5 := (hb.cell (p := ⟨H, 5, none⟩) hs4).trans c5
    have hs4 := Nat.lt_of_lt_of_le hs4 hb.size
    have hL4 := hL4.below hb
    have hE4 := hE4.step hb
    go_wp2_with fail
    refine hK.out _ _ hb (fun _ => held_next hb (fun hHeld2 => ?_))
    clear hK hHeld hb
    have hHeld := hHeld2
    clear hHeld2 K
    refine held_take (i := 13) (v := ?_) 38 rfl (by kernel_rfl) (by kernel_rfl) (by kernel_rfl) (fun _ _ _ h => h) rfl (by assumption) (Or.inl ⟨by rfl, ?_⟩) ?_
    rotate_left
    · intro w hSw; go_simp; (try with_reducible rfl)
    simp only [List.set_cons_zero, List.set_cons_succ]
    refine held_take (i := 14) (v := ?_) 2 rfl (by kernel_rfl) (by kernel_rfl) (by kernel_rfl) (fun _ _ _ h => h) rfl (by assumption) (Or.inl ⟨by rfl, ?_⟩) ?_
    rotate_left
    · intro w hSw; go_simp; (try with_reducible rfl)
    simp only [List.set_cons_zero, List.set_cons_succ]
    refine wpAnyH_done (by kernel_rfl) ?_ _
    go_wp2_with fail
    go_ret
    exact ⟨rfl, hE4.1⟩
  · rw [if_neg hok, if_neg hok] at HE
    rw [decide_eq_false hok] at HR HR2
    clear hok hL HE2
    obtain ⟨i, k, l, s, t, c⟩ := n
    unfold Nd.cells at HE HR HR2 ⊢
    simp only at HE HR HR2 ⊢
    have C := cell_new w #[.int .i64 i, .int .i64 k, .int .i64 l, .int .i64 s, .int .u64 (t : Int), .bool c] 59
    have c0 := C 0; have c1 := C 1; have c2 := C 2; have c3 := C 3; have c4 := C 4; have c5 := C 5
    simp only [List.getElem?_toArray, List.getElem?_cons_zero, List.getElem?_cons_succ] at c0 c1 c2 c3 c4 c5
    have hs := size_alloc w (.cells #[.int .i64 i, .int .i64 k, .int .i64 l, .int .i64 s, .int .u64 (t : Int), .bool c] 59)
    have hE0 := (Ext.refl w).alloc (.cells #[.int .i64 i, .int .i64 k, .int .i64 l, .int .i64 s, .int .u64 (t : Int), .bool c] 59)
    obtain ⟨H, hH⟩ : ∃ H, H = w.heap.size := ⟨_, rfl⟩
    rw [← hH] at c0 c1 c2 c3 c4 c5 hs hE0 ⊢
    have HH := Lib.hid hH
    clear hH C
    go_enter Try.func39, Try.ntmps39
    go_upto_region 1 with fail
    rw [← HH.out]
    generalize w.alloc (.cells #[.int .i64 i, .int .i64 k, .int .i64 l, .int .i64 s, .int .u64 (t : Int), .bool c] 59) = w0 at *
    go_wp2_with fail
    refine (HE.out _).mono ?_
    rintro e w1 ⟨v1, rfl, ho1, hb1⟩
    obtain ⟨a1, k1, rfl, hL1⟩ := ho1.bsn (n := 0) rfl
    have hE1 := hE0.to (hb1.mono (Nat.le_of_lt hs))
    have c0 := (hb1.cell (p := ⟨H, 0, none⟩) hs).trans c0
    have c1 := (hb1.cell (p := ⟨H, 1, none⟩) hs).trans c1
    have c2 := (hb1.cell (p := ⟨H, 2, none⟩) hs).trans c2
    have c3 := (hb1.cell (p := ⟨H, 3, none⟩) hs).trans c3
    have c4 := (hb1.cell (p := ⟨H, 4, none⟩) hs).trans c4
    have c5 := (hb1.cell (p := ⟨H, 5, none⟩) hs).trans c5
    have hs1 := Nat.lt_of_lt_of_le hs hb1.size
    clear HE ho1 hE0 hb1 hs
    go_wp2_with fail
    refine (HR.out _).mono ?_
    rintro e w4 ⟨rfl, hb4⟩
    have hE4 := hE1.step hb4
    have c0 := (hb4.cell (p := ⟨H, 0, none⟩) hs1).trans c0
    have c1 := (hb4.cell (p := ⟨H, 1, none⟩) hs1).trans c1
    have c2 := (hb4.cell (p := ⟨H, 2, none⟩) hs1).trans c2
    have c3 := (hb4.cell (p := ⟨H, 3, none⟩) hs1).trans c3
    have c4 := (hb4.cell (p := ⟨H, 4, none⟩) hs1).trans c4
    have c5 := (hb4.cell (p := ⟨H, 5, none⟩) hs1).trans c5
    clear hE1 hs1 hb4
    go_wp2_with fail
    refine (HR2.out _).mono ?_
    rintro e w5 ⟨rfl, hb5⟩
    go_wp2_with fail
    go_ret
    exact ⟨rfl, (hE4.step hb5).1⟩
end Go.Proofs.Ytmedamofmlkccaa
