/- Contracts of the law's own functions: known, in, read, same. -/
import Derived.Test.YtmjlndfkddacbaaRef16Dec
import Derived.Test.YtmjlndfkddacbaaRecordArg
import Derived.Deep.DeepCutAuto
import Derived.Test.YtmjlndfkddacbaaHeld
namespace Go.Proofs.Ytmjlndfkddacbaa
open Go.RowKit

theorem recWhy_nil : recWhy [] = 10 := by simp [recWhy, badHead, rdW, rdB, rdQ, rdK, rdByte, rdLong, rdBytes, rdShort, rdRaw]
set_option maxRecDepth 100000 in
theorem rec_known (w : World) : Calls Try.prog 16 #[] w fun e w' => e = .returned (.bool true) ∧ Below w.heap.size w w' := by
  go_enter Try.func16, Try.ntmps16
  go_wp2_with fail
  refine (recdec_any none 0 0 [] w (Bs.nil w) (Nat.zero_le _)).mono ?_
  rintro e w1 ⟨hP, hb⟩
  rcases hP with ⟨h, _⟩ | ⟨_, h⟩
  · rw [recWhy_nil] at h; cases h
  rw [recWhy_nil] at h
  subst h
  have hE1 := (Ext.refl w).step hb
  have HS := Lib.hid (fun w => recsize_any 2 1 none 0 0 w)
  rw [if_pos (by unfold RecOk; omega)] at HS
  unfold recV
  go_wp2_with fail
  refine (HS.out _).mono ?_
  rintro e w2 ⟨rfl, hb2⟩
  have hE2 := (hE1.alloc (.cells #[.int .i64 0, .int .u64 0, .slice none 0 0] 27)).step hb2
  go_wp2_with fail
  go_ret
  exact ⟨rfl, hE2.1⟩

set_option maxRecDepth 100000 in
theorem read_any (a : Option Addr) (len cap : Nat) (xs : List UInt8) (w : World) (h : Bs w a len cap xs) (hl : len ≤ big) :
    Calls Try.prog 15 #[.slice a len cap] w fun e w' => e = .returned (.bool true) ∧ Below w.heap.size w w' := by
  go_enter Try.func15, Try.ntmps15
  go_wp2_with fail
  refine (recdec_any a len cap xs w h hl).mono ?_
  rintro e w1 ⟨hP, hb⟩
  have hE1 := (Ext.refl w).step hb
  have h1 := h.below hb
  have HC2 := Lib.hid (fun w h => rdecr_any a len cap xs w h hl)
  rcases hP with ⟨hW, v, rfl, ho⟩ | ⟨hW, rfl⟩
  · obtain ⟨av, cv, rfl, hBv⟩ := ho.bs
    have HC2 : Hid (∀ w, Bs w a len cap xs → Calls Try.prog 47 #[.slice a len cap] w fun e w' => (∃ v, e = .returned (recV ((rdK xs).1 : Nat) (rdQ xs).1 v ((rdE xs : Int) + 4) 0) ∧ Own w' w.heap.size v (rdB xs).1) ∧ Below w.heap.size w w') :=
      Lib.hid fun w h => (HC2.out w h).mono fun e w' ⟨h1, h2⟩ => ⟨h1.elim (fun h => h.2) (fun h => absurd hW h.1), h2⟩
    clear hW ho h
    generalize (rdK xs).1 = k at *
    generalize (rdQ xs).1 = sq at *
    generalize (rdB xs).1 = bo at *
    generalize ((rdE xs : Nat) : Int) + 4 = en at *
    unfold recV at HC2 ⊢
    have c0 := cell_new w1 #[.int .i64 (k : Int), .int .u64 (sq : Int), .slice av bo.length cv] 27 0
    have c1 := cell_new w1 #[.int .i64 (k : Int), .int .u64 (sq : Int), .slice av bo.length cv] 27 1
    have c2 := cell_new w1 #[.int .i64 (k : Int), .int .u64 (sq : Int), .slice av bo.length cv] 27 2
    simp only [List.getElem?_toArray, List.getElem?_cons_zero, List.getElem?_cons_succ] at c0 c1 c2
    have hsz := size_alloc w1 (.cells #[.int .i64 (k : Int), .int .u64 (sq : Int), .slice av bo.length cv] 27)
    have hE2 := hE1.alloc (.cells #[.int .i64 (k : Int), .int .u64 (sq : Int), .slice av bo.length cv] 27)
    have h2 := h1.alloc (.cells #[.int .i64 (k : Int), .int .u64 (sq : Int), .slice av bo.length cv] 27)
    have hBv2 := hBv.alloc (.cells #[.int .i64 (k : Int), .int .u64 (sq : Int), .slice av bo.length cv] 27)
    clear h1 hBv hE1 hb
    go_upto_region 2 with fail
    generalize w1.alloc (.cells #[.int .i64 (k : Int), .int .u64 (sq : Int), .slice av bo.length cv] 27) = w2 at *
    go_wp2_with fail
    refine (HC2.out _ h2).mono ?_
    rintro e w3 ⟨⟨v2, rfl, ho2⟩, hb3⟩
    obtain ⟨a2, k2, rfl, hB2⟩ := ho2.bs
    have c0 := (hb3.cell (p := ⟨w1.heap.size, 0, none⟩) hsz).trans c0
    have c1 := (hb3.cell (p := ⟨w1.heap.size, 1, none⟩) hsz).trans c1
    have c2 := (hb3.cell (p := ⟨w1.heap.size, 2, none⟩) hsz).trans c2
    have hsz3 := Nat.lt_of_lt_of_le hsz hb3.size
    have hE3 := (hE2.step hb3).alloc (.cells #[.int .i64 (k : Int), .int .u64 (sq : Int), .slice a2 bo.length k2] 29)
    have hs1 := run_string ((hBv2.below hb3).alloc (.cells #[.int .i64 (k : Int), .int .u64 (sq : Int), .slice a2 bo.length k2] 29))
    have hs2 := run_string (hB2.alloc (.cells #[.int .i64 (k : Int), .int .u64 (sq : Int), .slice a2 bo.length k2] 29))
    clear hBv2 hB2 ho2 h2 HC2
    go_wp2_with fail
    go_ret
    exact ⟨rfl, hE3.1⟩
  · have HC2 : Hid (∀ w, Bs w a len cap xs → Calls Try.prog 47 #[.slice a len cap] w fun e w' => e = .returned (recV 0 0 (.slice none 0 0) 0 (recWhy xs)) ∧ Below w.heap.size w w') :=
      Lib.hid fun w h => (HC2.out w h).mono fun e w' ⟨h1, h2⟩ => ⟨h1.elim (fun h => absurd h.1 hW) (fun h => h.2), h2⟩
    clear hW h
    generalize recWhy xs = y at *
    unfold recV at HC2 ⊢
    have c0 := cell_new w1 #[.int .i64 0, .int .u64 0, .slice none 0 0] 27 0
    have c1 := cell_new w1 #[.int .i64 0, .int .u64 0, .slice none 0 0] 27 1
    have c2 := cell_new w1 #[.int .i64 0, .int .u64 0, .slice none 0 0] 27 2
    simp only [List.getElem?_toArray, List.getElem?_cons_zero, List.getElem?_cons_succ] at c0 c1 c2
    have hsz := size_alloc w1 (.cells #[.int .i64 0, .int .u64 0, .slice none 0 0] 27)
    have hE2 := hE1.alloc (.cells #[.int .i64 0, .int .u64 0, .slice none 0 0] 27)
    have h2 := h1.alloc (.cells #[.int .i64 0, .int .u64 0, .slice none 0 0] 27)
    clear h1 hE1 hb
    go_upto_region 2 with fail
    generalize w1.alloc (.cells #[.int .i64 0, .int .u64 0, .slice none 0 0] 27) = w2 at *
    go_wp2_with fail
    refine (HC2.out _ h2).mono ?_
    rintro e w3 ⟨rfl, hb3⟩
    have c0 := (hb3.cell (p := ⟨w1.heap.size, 0, none⟩) hsz).trans c0
    have c1 := (hb3.cell (p := ⟨w1.heap.size, 1, none⟩) hsz).trans c1
    have c2 := (hb3.cell (p := ⟨w1.heap.size, 2, none⟩) hsz).trans c2
    have hsz3 := Nat.lt_of_lt_of_le hsz hb3.size
    have hE3 := (hE2.step hb3).alloc (.cells #[.int .i64 0, .int .u64 0, .slice none 0 0] 29)
    have hs1 := run_string (Bs.nil (w3.alloc (.cells #[.int .i64 0, .int .u64 0, .slice none 0 0] 29)))
    clear h2 HC2
    go_wp2_with fail
    go_ret
    exact ⟨rfl, hE3.1⟩

theorem in_any (kind : Int) (seq : Nat) (a : Option Addr) (len cap : Nat) (w : World) :
    Calls Try.prog 13 #[.agg #[.int .i64 kind, .int .u64 (seq : Int), .slice a len cap]] w fun e w' => e = .returned (.agg #[.int .i64 kind, .int .u64 (seq : Int), .slice a len cap]) ∧ Below w.heap.size w w' := by
  go_enter Try.func13, Try.ntmps13
  go_wp2_with fail
  refine bodyPost_ret (v := .agg #[.int .i64 kind, .int .u64 (seq : Int), .slice a len cap]) (by simp [results, Try.results13, go_sem]) rfl ⟨rfl, ?_⟩
  exact (((Ext.refl w).alloc _).alloc _).1

set_option maxHeartbeats 4000000 in
set_option maxRecDepth 100000 in
theorem same_any (kind : Int) (seq : Nat) (a : Option Addr) (len cap : Nat) (ys : List UInt8) (w : World) (h : Bs w a len cap ys) :
    Calls Try.prog 14 #[.agg #[.int .i64 kind, .int .u64 (seq : Int), .slice a len cap]] w fun e w' => e = .returned (.bool true) ∧ Below w.heap.size w w' := by
  have hE0 := (Ext.refl w).alloc (.cells #[.int .i64 kind, .int .u64 (seq : Int), .slice a len cap] 27)
  have hB0 := h.alloc (.cells #[.int .i64 kind, .int .u64 (seq : Int), .slice a len cap] 27)
  have c0 := cell_new w #[.int .i64 kind, .int .u64 (seq : Int), .slice a len cap] 27 0
  have c1 := cell_new w #[.int .i64 kind, .int .u64 (seq : Int), .slice a len cap] 27 1
  have c2 := cell_new w #[.int .i64 kind, .int .u64 (seq : Int), .slice a len cap] 27 2
  simp only [List.getElem?_toArray, List.getElem?_cons_zero, List.getElem?_cons_succ] at c0 c1 c2
  have hsz := size_alloc w (.cells #[.int .i64 kind, .int .u64 (seq : Int), .slice a len cap] 27)
  obtain ⟨H, hH⟩ : ∃ H, H = w.heap.size := ⟨_, rfl⟩
  rw [← hH] at hE0 hsz c0 c1 c2 ⊢
  have HH := Lib.hid hH
  clear h hH
  go_enter Try.func14, Try.ntmps14
  go_upto_region 1 with fail
  rw [← HH.out]
  generalize w.alloc (.cells #[.int .i64 kind, .int .u64 (seq : Int), .slice a len cap] 27) = w0 at *
  have HI := Lib.hid (fun w => in_any kind seq a len cap w)
  have HR := Lib.hid (fun w => rright_any kind seq a len cap w)
  have HR2 := Lib.hid (fun w => recright_any kind seq a len cap w)
  have HS := Lib.hid (fun w => recsize_any kind seq a len cap w)
  have HS2 := Lib.hid (fun w => rsize_any kind seq a len cap w)
  by_cases hok : RecOk kind seq len
  · obtain ⟨kn, rfl⟩ : ∃ n : Nat, kind = (n : Int) := ⟨kind.toNat, by have := hok.2.2; omega⟩
    have HE := Lib.hid (recenc_ok kn seq a len cap ys w0 hB0 hok)
    have HE2 := Lib.hid (fun w h => renc_any (kn : Int) seq a len cap ys w h (by have := hok.2.1; omega))
    rw [rBytes_eq] at HE2
    rw [decide_eq_true hok] at HR HR2
    rw [if_pos hok] at HS HS2
    have hl9 := hok.2.1
    clear hok
    generalize recBytes kn seq ys = L at *
    go_wp2_with fail
    refine HE.out.mono ?_
    rintro e w1 ⟨v1, rfl, ho1, hb1⟩
    obtain ⟨a1, k1, rfl, hL1⟩ := ho1.bs
    have hE1 := hE0.to (hb1.mono (Nat.le_of_lt hsz))
    have c0 := (hb1.cell (p := ⟨H, 0, none⟩) hsz).trans c0
    have c1 := (hb1.cell (p := ⟨H, 1, none⟩) hsz).trans c1
    have c2 := (hb1.cell (p := ⟨H, 2, none⟩) hsz).trans c2
    have hsz1 := Nat.lt_of_lt_of_le hsz hb1.size
    have hB1 := hB0.below hb1
    clear HE ho1 hE0 hB0 hb1
    go_wp2_with fail
    refine (HI.out _).mono ?_
    rintro e w2 ⟨rfl, hb2⟩
    have hE2 := hE1.step hb2
    have c0 := (hb2.cell (p := ⟨H, 0, none⟩) hsz1).trans c0
    have c1 := (hb2.cell (p := ⟨H, 1, none⟩) hsz1).trans c1
    have c2 := (hb2.cell (p := ⟨H, 2, none⟩) hsz1).trans c2
    have hsz2 := Nat.lt_of_lt_of_le hsz1 hb2.size
    have hB2 := hB1.below hb2
    have hL2 := hL1.below hb2
    clear hE1 hB1 hL1 hb2
    have d0 := cell_new w2 #[.int .i64 (kn : Int), .int .u64 (seq : Int), .slice a len cap] 29 0
    have d1 := cell_new w2 #[.int .i64 (kn : Int), .int .u64 (seq : Int), .slice a len cap] 29 1
    have d2 := cell_new w2 #[.int .i64 (kn : Int), .int .u64 (seq : Int), .slice a len cap] 29 2
    simp only [List.getElem?_toArray, List.getElem?_cons_zero, List.getElem?_cons_succ] at d0 d1 d2
    have hE3 := hE2.alloc (.cells #[.int .i64 (kn : Int), .int .u64 (seq : Int), .slice a len cap] 29)
    have hB3 := hB2.alloc (.cells #[.int .i64 (kn : Int), .int .u64 (seq : Int), .slice a len cap] 29)
    have hL3 := hL2.alloc (.cells #[.int .i64 (kn : Int), .int .u64 (seq : Int), .slice a len cap] 29)
    have hz3 := size_alloc w2 (.cells #[.int .i64 (kn : Int), .int .u64 (seq : Int), .slice a len cap] 29)
    have c0 := (((Below.refl _ _).alloc (Nat.le_refl _) (.cells #[.int .i64 (kn : Int), .int .u64 (seq : Int), .slice a len cap] 29)).cell (p := ⟨H, 0, none⟩) hsz2).trans c0
    have c1 := (((Below.refl _ _).alloc (Nat.le_refl _) (.cells #[.int .i64 (kn : Int), .int .u64 (seq : Int), .slice a len cap] 29)).cell (p := ⟨H, 1, none⟩) hsz2).trans c1
    have c2 := (((Below.refl _ _).alloc (Nat.le_refl _) (.cells #[.int .i64 (kn : Int), .int .u64 (seq : Int), .slice a len cap] 29)).cell (p := ⟨H, 2, none⟩) hsz2).trans c2
    have hsz3 : H < (w2.alloc (.cells #[.int .i64 (kn : Int), .int .u64 (seq : Int), .slice a len cap] 29)).heap.size := by omega
    obtain ⟨Z, hZ⟩ : ∃ Z, Z = w2.heap.size := ⟨_, rfl⟩
    rw [← hZ] at d0 d1 d2 hz3
    have HZ := Lib.hid hZ
    clear hE2 hB2 hL2 hsz2 hsz1 hZ
    go_upto_region 3 with fail
    rw [← HZ.out]
    generalize w2.alloc (.cells #[.int .i64 (kn : Int), .int .u64 (seq : Int), .slice a len cap] 29) = w3 at *
    go_wp2_with fail
    refine (HR.out _).mono ?_
    rintro e w4 ⟨rfl, hb4⟩
    have hE4 := hE3.step hb4
    have c0 := (hb4.cell (p := ⟨H, 0, none⟩) hsz3).trans c0
    have c1 := (hb4.cell (p := ⟨H, 1, none⟩) hsz3).trans c1
    have c2 := (hb4.cell (p := ⟨H, 2, none⟩) hsz3).trans c2
    have d0 := (hb4.cell (p := ⟨Z, 0, none⟩) hz3).trans d0
    have d1 := (hb4.cell (p := ⟨Z, 1, none⟩) hz3).trans d1
    have d2 := (hb4.cell (p := ⟨Z, 2, none⟩) hz3).trans d2
    have hz4 := Nat.lt_of_lt_of_le hz3 hb4.size
    have hsz4 := Nat.lt_of_lt_of_le hsz3 hb4.size
    have hB4 := hB3.below hb4
    have hL4 := hL3.below hb4
    clear hE3 hB3 hL3 hz3 hsz3 hb4
    go_upto_region 5 with fail
    obtain ⟨wd, hwd⟩ : ∃ wd, wd = w4.drew := ⟨_, rfl⟩
    have hb : Below w4.heap.size w4 wd := by rw [hwd]; exact (Below.refl _ _).drew
    have c0 := (hb.cell (p := ⟨H, 0, none⟩) hsz4).trans c0
    have c1 := (hb.cell (p := ⟨H, 1, none⟩) hsz4).trans c1
    have c2 := (hb.cell (p := ⟨H, 2, none⟩) hsz4).trans c2
    have hsz4 := Nat.lt_of_lt_of_le hsz4 hb.size
    have d0 := (hb.cell (p := ⟨Z, 0, none⟩) hz4).trans d0
    have d1 := (hb.cell (p := ⟨Z, 1, none⟩) hz4).trans d1
    have d2 := (hb.cell (p := ⟨Z, 2, none⟩) hz4).trans d2
    have hz4 := Nat.lt_of_lt_of_le hz4 hb.size
    have hB4 := hB4.below hb
    have hL4 := hL4.below hb
    have hE4 := hE4.step hb
    clear hb
    refine held_start (by kernel_rfl) (fun hHeld => ?_)
    rw [← hwd] at hHeld ⊢
    clear hwd
    refine held_take (i := 0) (v := ?_) 33 rfl (by kernel_rfl) (by kernel_rfl) (by kernel_rfl) (fun _ _ _ h => h) rfl (by assumption) (Or.inl ⟨by rfl, ?_⟩) ?_
    rotate_left
    · intro w hSw; go_simp; (try with_reducible rfl)
    simp only [List.set_cons_zero, List.set_cons_succ]
    refine held_take (i := 1) (v := ?_) 34 rfl (by kernel_rfl) (by kernel_rfl) (by kernel_rfl) (fun _ _ _ h => h) rfl (by assumption) (Or.inl ⟨by rfl, ?_⟩) ?_
    rotate_left
    · intro w hSw; have hs := run_string (hL4.below hSw); go_simp; (try with_reducible rfl)
    simp only [List.set_cons_zero, List.set_cons_succ]
    refine held_take (i := 2) (v := ?_) 35 rfl (by kernel_rfl) (by kernel_rfl) (by kernel_rfl) (fun _ _ _ h => h) rfl (by assumption) (Or.inl ⟨by rfl, ?_⟩) ?_
    rotate_left
    · intro w hSw; obtain ⟨hc, hf⟩ := bcell hSw; go_simp; (try with_reducible rfl)
    simp only [List.set_cons_zero, List.set_cons_succ]
    refine wpAnyH_ready (rs := [3]) (by kernel_rfl) (by simp) ?_
    refine AllReadyH.cons rfl (fun K hK => ?_) AllReadyH.nil
    go_simp
    refine (HE2.out _ hB4).mono ?_
    rintro e w5 ⟨v5, rfl, ho5, hb⟩
    have c0 := (hb.cell (p := ⟨H, 0, none⟩) hsz4).trans c0
    have c1 := (hb.cell (p := ⟨H, 1, none⟩) hsz4).trans c1
    have c2 := (hb.cell (p := ⟨H, 2, none⟩) hsz4).trans c2
    have hsz4 := Nat.lt_of_lt_of_le hsz4 hb.size
    have d0 := (hb.cell (p := ⟨Z, 0, none⟩) hz4).trans d0
    have d1 := (hb.cell (p := ⟨Z, 1, none⟩) hz4).trans d1
    have d2 := (hb.cell (p := ⟨Z, 2, none⟩) hz4).trans d2
    have hz4 := Nat.lt_of_lt_of_le hz4 hb.size
    have hB4 := hB4.below hb
    have hL4 := hL4.below hb
    have hE4 := hE4.step hb
    obtain ⟨a5, k5, rfl, hB5⟩ := ho5.bs
    go_wp2_with fail
    refine hK.out _ _ hb (fun _ => held_next hb (fun hHeld2 => ?_))
    clear hK hHeld hb
    have hHeld := hHeld2
    clear hHeld2 K
    refine held_take (i := 4) (v := ?_) 37 rfl (by kernel_rfl) (by kernel_rfl) (by kernel_rfl) (fun _ _ _ h => h) rfl (by assumption) (Or.inl ⟨by rfl, ?_⟩) ?_
    rotate_left
    · intro w hSw; have hs := run_string (hB5.below hSw); go_simp; (try with_reducible rfl)
    simp only [List.set_cons_zero, List.set_cons_succ]
    refine held_take (i := 5) (v := ?_) 38 rfl (by kernel_rfl) (by kernel_rfl) (by kernel_rfl) (fun _ _ _ h => h) rfl (by assumption) (Or.inl ⟨by rfl, ?_⟩) ?_
    rotate_left
    · intro w hSw; go_simp; (try with_reducible rfl)
    simp only [List.set_cons_zero, List.set_cons_succ]
    refine held_take (i := 6) (v := ?_) 39 rfl (by kernel_rfl) (by kernel_rfl) (by kernel_rfl) (fun _ _ _ h => h) rfl (by assumption) (Or.inl ⟨by rfl, ?_⟩) ?_
    rotate_left
    · intro w hSw; go_simp; (try with_reducible rfl)
    simp only [List.set_cons_zero, List.set_cons_succ]
    refine held_take (i := 7) (v := ?_) 40 rfl (by kernel_rfl) (by kernel_rfl) (by kernel_rfl) (fun _ _ _ h => h) rfl (by assumption) (Or.inl ⟨by rfl, ?_⟩) ?_
    rotate_left
    · intro w hSw; go_simp; (try with_reducible rfl)
    simp only [List.set_cons_zero, List.set_cons_succ]
    refine held_take (i := 8) (v := ?_) 41 rfl (by kernel_rfl) (by kernel_rfl) (by kernel_rfl) (fun _ _ _ h => h) rfl (by assumption) (Or.inl ⟨by rfl, ?_⟩) ?_
    rotate_left
    · intro w hSw; go_simp; (try with_reducible rfl)
    simp only [List.set_cons_zero, List.set_cons_succ]
    refine held_take (i := 9) (v := ?_) 42 rfl (by kernel_rfl) (by kernel_rfl) (by kernel_rfl) (fun _ _ _ h => h) rfl (by assumption) (Or.inl ⟨by rfl, ?_⟩) ?_
    rotate_left
    · intro w hSw; go_simp; (try with_reducible rfl)
    simp only [List.set_cons_zero, List.set_cons_succ]
    refine held_take (i := 10) (v := ?_) 43 rfl (by kernel_rfl) (by kernel_rfl) (by kernel_rfl) (fun _ _ _ h => h) rfl (by assumption) (Or.inl ⟨by rfl, ?_⟩) ?_
    rotate_left
    · intro w hSw; go_simp; (try with_reducible rfl)
    simp only [List.set_cons_zero, List.set_cons_succ]
    refine held_take (i := 11) (v := ?_) 44 rfl (by kernel_rfl) (by kernel_rfl) (by kernel_rfl) (fun _ _ _ h => h) rfl (by assumption) (Or.inl ⟨by rfl, ?_⟩) ?_
    rotate_left
    · intro w hSw; obtain ⟨hc, hf⟩ := bcell hSw; go_simp; (try with_reducible rfl)
    simp only [List.set_cons_zero, List.set_cons_succ]
    refine wpAnyH_ready (rs := [12]) (by kernel_rfl) (by simp) ?_
    refine AllReadyH.cons rfl (fun K hK => ?_) AllReadyH.nil
    go_simp
    refine (HR2.out _).mono ?_
    rintro e w6 ⟨rfl, hb⟩
    have c0 := (hb.cell (p := ⟨H, 0, none⟩) hsz4).trans c0
    have c1 := (hb.cell (p := ⟨H, 1, none⟩) hsz4).trans c1
    have c2 := (hb.cell (p := ⟨H, 2, none⟩) hsz4).trans c2
    have hsz4 := Nat.lt_of_lt_of_le hsz4 hb.size
    have d0 := (hb.cell (p := ⟨Z, 0, none⟩) hz4).trans d0
    have d1 := (hb.cell (p := ⟨Z, 1, none⟩) hz4).trans d1
    have d2 := (hb.cell (p := ⟨Z, 2, none⟩) hz4).trans d2
    have hz4 := Nat.lt_of_lt_of_le hz4 hb.size
    have hB4 := hB4.below hb
    have hL4 := hL4.below hb
    have hE4 := hE4.step hb
    go_wp2_with fail
    refine hK.out _ _ hb (fun _ => held_next hb (fun hHeld2 => ?_))
    clear hK hHeld hb
    have hHeld := hHeld2
    clear hHeld2 K
    refine held_take (i := 13) (v := ?_) 46 rfl (by kernel_rfl) (by kernel_rfl) (by kernel_rfl) (fun _ _ _ h => h) rfl (by assumption) (Or.inl ⟨by rfl, ?_⟩) ?_
    rotate_left
    · intro w hSw; go_simp; (try with_reducible rfl)
    simp only [List.set_cons_zero, List.set_cons_succ]
    refine held_take (i := 14) (v := ?_) 47 rfl (by kernel_rfl) (by kernel_rfl) (by kernel_rfl) (fun _ _ _ h => h) rfl (by assumption) (Or.inl ⟨by rfl, ?_⟩) ?_
    rotate_left
    · intro w hSw; go_simp; (try with_reducible rfl)
    simp only [List.set_cons_zero, List.set_cons_succ]
    refine held_take (i := 15) (v := ?_) 48 rfl (by kernel_rfl) (by kernel_rfl) (by kernel_rfl) (fun _ _ _ h => h) rfl (by assumption) (Or.inl ⟨by rfl, ?_⟩) ?_
    rotate_left
    · intro w hSw; obtain ⟨hc, hf⟩ := bcell hSw; go_simp; (try with_reducible rfl)
    simp only [List.set_cons_zero, List.set_cons_succ]
    refine held_take (i := 17) (v := ?_) 50 rfl (by kernel_rfl) (by kernel_rfl) (by kernel_rfl) (fun _ _ _ h => h) rfl (by assumption) (Or.inl ⟨by rfl, ?_⟩) ?_
    rotate_left
    · intro w hSw; obtain ⟨hc, hf⟩ := bcell hSw; go_simp; (try with_reducible rfl)
    simp only [List.set_cons_zero, List.set_cons_succ]
    refine wpAnyH_ready (rs := [16]) (by kernel_rfl) (by simp) ?_
    refine AllReadyH.cons rfl (fun K hK => ?_) AllReadyH.nil
    go_simp
    refine (HS.out _).mono ?_
    rintro e w7 ⟨rfl, hb⟩
    have c0 := (hb.cell (p := ⟨H, 0, none⟩) hsz4).trans c0
    have c1 := (hb.cell (p := ⟨H, 1, none⟩) hsz4).trans c1
    have c2 := (hb.cell (p := ⟨H, 2, none⟩) hsz4).trans c2
    have hsz4 := Nat.lt_of_lt_of_le hsz4 hb.size
    have d0 := (hb.cell (p := ⟨Z, 0, none⟩) hz4).trans d0
    have d1 := (hb.cell (p := ⟨Z, 1, none⟩) hz4).trans d1
    have d2 := (hb.cell (p := ⟨Z, 2, none⟩) hz4).trans d2
    have hz4 := Nat.lt_of_lt_of_le hz4 hb.size
    have hB4 := hB4.below hb
    have hL4 := hL4.below hb
    have hE4 := hE4.step hb
    go_wp2_with fail
    refine hK.out _ _ hb (fun _ => held_next hb (fun hHeld2 => ?_))
    clear hK hHeld hb
    have hHeld := hHeld2
    clear hHeld2 K
    refine wpAnyH_ready (rs := [18]) (by kernel_rfl) (by simp) ?_
    refine AllReadyH.cons rfl (fun K hK => ?_) AllReadyH.nil
    go_simp
    refine (HS2.out _).mono ?_
    rintro e w8 ⟨rfl, hb⟩
    have c0 := (hb.cell (p := ⟨H, 0, none⟩) hsz4).trans c0
    have c1 := (hb.cell (p := ⟨H, 1, none⟩) hsz4).trans c1
    have c2 := (hb.cell (p := ⟨H, 2, none⟩) hsz4).trans c2
    have hsz4 := Nat.lt_of_lt_of_le hsz4 hb.size
    have d0 := (hb.cell (p := ⟨Z, 0, none⟩) hz4).trans d0
    have d1 := (hb.cell (p := ⟨Z, 1, none⟩) hz4).trans d1
    have d2 := (hb.cell (p := ⟨Z, 2, none⟩) hz4).trans d2
    have hz4 := Nat.lt_of_lt_of_le hz4 hb.size
    have hB4 := hB4.below hb
    have hL4 := hL4.below hb
    have hE4 := hE4.step hb
    go_wp2_with fail
    refine hK.out _ _ hb (fun _ => held_next hb (fun hHeld2 => ?_))
    clear hK hHeld hb
    have hHeld := hHeld2
    clear hHeld2 K
    refine held_take (i := 19) (v := ?_) 52 rfl (by kernel_rfl) (by kernel_rfl) (by kernel_rfl) (fun _ _ _ h => h) rfl (by assumption) (Or.inl ⟨by rfl, ?_⟩) ?_
    rotate_left
    · intro w hSw; go_simp; (try with_reducible rfl)
    simp only [List.set_cons_zero, List.set_cons_succ]
    refine held_take (i := 20) (v := ?_) 53 rfl (by kernel_rfl) (by kernel_rfl) (by kernel_rfl) (fun _ _ _ h => h) rfl (by assumption) (Or.inl ⟨by rfl, ?_⟩) ?_
    rotate_left
    · intro w hSw; go_simp; (try with_reducible rfl)
    simp only [List.set_cons_zero, List.set_cons_succ]
    refine held_take (i := 21) (v := ?_) 2 rfl (by kernel_rfl) (by kernel_rfl) (by kernel_rfl) (fun _ _ _ h => h) rfl (by assumption) (Or.inl ⟨by rfl, ?_⟩) ?_
    rotate_left
    · intro w hSw; go_simp; (try with_reducible rfl)
    simp only [List.set_cons_zero, List.set_cons_succ]
    refine wpAnyH_done (by kernel_rfl) ?_ _
    go_wp2_with fail
    go_ret
    exact ⟨rfl, hE4.1⟩
  · have HE := Lib.hid (recenc_no kind seq a len cap w0 hok)
    rw [decide_eq_false hok] at HR HR2
    rw [if_neg hok] at HS HS2
    clear hok
    go_wp2_with fail
    refine HE.out.mono ?_
    rintro e w1 ⟨rfl, hb1⟩
    have hE1 := hE0.to (hb1.mono (Nat.le_of_lt hsz))
    have c0 := (hb1.cell (p := ⟨H, 0, none⟩) hsz).trans c0
    have c1 := (hb1.cell (p := ⟨H, 1, none⟩) hsz).trans c1
    have c2 := (hb1.cell (p := ⟨H, 2, none⟩) hsz).trans c2
    have hsz1 := Nat.lt_of_lt_of_le hsz hb1.size
    clear HE hE0 hb1
    go_wp2_with fail
    refine (HI.out _).mono ?_
    rintro e w2 ⟨rfl, hb2⟩
    have hb3 := hb2.alloc hb2.size (.cells #[.int .i64 kind, .int .u64 (seq : Int), .slice a len cap] 29)
    have hE3 := hE1.step hb3
    have c0 := (hb3.cell (p := ⟨H, 0, none⟩) hsz1).trans c0
    have c1 := (hb3.cell (p := ⟨H, 1, none⟩) hsz1).trans c1
    have c2 := (hb3.cell (p := ⟨H, 2, none⟩) hsz1).trans c2
    have hsz3 := Nat.lt_of_lt_of_le hsz1 hb3.size
    clear hb2 hb3 hE1
    go_upto_region 3 with fail
    have d0 : (w2.alloc (.cells #[.int .i64 kind, .int .u64 (seq : Int), .slice a len cap] 29)).cell? ⟨w2.heap.size, 0, none⟩ = some (.int .i64 kind) := cell_new w2 _ 29 0
    have d1 : (w2.alloc (.cells #[.int .i64 kind, .int .u64 (seq : Int), .slice a len cap] 29)).cell? ⟨w2.heap.size, 1, none⟩ = some (.int .u64 (seq : Int)) := cell_new w2 _ 29 1
    have d2 : (w2.alloc (.cells #[.int .i64 kind, .int .u64 (seq : Int), .slice a len cap] 29)).cell? ⟨w2.heap.size, 2, none⟩ = some (.slice a len cap) := cell_new w2 _ 29 2
    generalize w2.alloc (.cells #[.int .i64 kind, .int .u64 (seq : Int), .slice a len cap] 29) = w3 at *
    go_wp2_with fail
    refine (HR.out _).mono ?_
    rintro e w4 ⟨rfl, hb4⟩
    have hE4 := hE3.step hb4
    have c0 := (hb4.cell (p := ⟨H, 0, none⟩) hsz3).trans c0
    have c1 := (hb4.cell (p := ⟨H, 1, none⟩) hsz3).trans c1
    have c2 := (hb4.cell (p := ⟨H, 2, none⟩) hsz3).trans c2
    have hsz4 := Nat.lt_of_lt_of_le hsz3 hb4.size
    clear hE3 hb4
    go_wp2_with fail
    refine (HR2.out _).mono ?_
    rintro e w5 ⟨rfl, hb5⟩
    have hE5 := hE4.step hb5
    have c0 := (hb5.cell (p := ⟨H, 0, none⟩) hsz4).trans c0
    have c1 := (hb5.cell (p := ⟨H, 1, none⟩) hsz4).trans c1
    have c2 := (hb5.cell (p := ⟨H, 2, none⟩) hsz4).trans c2
    clear hE4 hb5
    go_wp2_with fail
    refine (HS.out _).mono ?_
    rintro e w6 ⟨rfl, hb6⟩
    go_wp2_with fail
    go_ret
    exact ⟨rfl, (hE5.step hb6).1⟩
end Go.Proofs.Ytmjlndfkddacbaa
