/- The walk of NodeFields. -/
import Derived.Test.YtmedamofmlkccaaNodeBackWalk
import Derived.Test.YtmedamofmlkccaaTools2
import Derived.Test.YtmedamofmlkccaaWithin
import Derived.Deep.DeepCutAuto
import Derived.Test.YtmedamofmlkccaaHeldB
namespace Go.Proofs.Ytmedamofmlkccaa
open Go.RowKit

set_option maxRecDepth 100000 in
theorem nd_neq_ne (a b : Nd) (h : a ≠ b) (w : World) : (binOp .neq 59 (.agg a.cells) (.agg b.cells)).run Try.prog w = .ok (.bool true) w := by
  obtain ⟨i, k, l, s, t, c⟩ := a
  obtain ⟨i', k', l', s', t', c'⟩ := b
  unfold Nd.cells
  by_cases h1 : i = i'
  · by_cases h2 : k = k'
    · by_cases h3 : l = l'
      · by_cases h4 : s = s'
        · by_cases h5 : t = t'
          · by_cases h6 : c = c'
            · exact absurd (by rw [h1, h2, h3, h4, h5, h6]) h
            · simp [go_sem, Try.underlying59, Try.underlying3, Try.underlying37, Try.underlying4, h1, h2, h3, h4, h5, h6]
          · have h5' : ((t : Int) == (t' : Int)) = false := by rw [beq_eq_false_iff_ne]; omega
            simp [go_sem, Try.underlying59, Try.underlying3, Try.underlying37, Try.underlying4, h1, h2, h3, h4, h5']
        · simp [go_sem, Try.underlying59, Try.underlying3, Try.underlying37, Try.underlying4, h1, h2, h3, h4]
      · simp [go_sem, Try.underlying59, Try.underlying3, Try.underlying37, Try.underlying4, h1, h2, h3]
    · simp [go_sem, Try.underlying59, Try.underlying3, Try.underlying37, Try.underlying4, h1, h2]
  · simp [go_sem, Try.underlying59, Try.underlying3, Try.underlying37, Try.underlying4, h1]

set_option maxHeartbeats 8000000 in
set_option maxRecDepth 100000 in
theorem NodeFields_walk (v0 : Value) (v1 : Value) (v2 : Value) (w : World) (h0 : Arg Try.prog w 59 v0) (h1 : Arg Try.prog w 3 v1) (h2 : Arg Try.prog w 3 v2) :
    Calls Try.prog 11 #[v0, v1, v2] w fun e w' => e = .returned (.bool true) ∧ Below w.heap.size w w' := by
  obtain ⟨⟨i, k, l, s, t, c⟩, rfl, htb⟩ := h0.node
  obtain ⟨which, rfl, _⟩ := h1.int Try.underlying3
  obtain ⟨by_, rfl, _⟩ := h2.int Try.underlying3
  clear h0 h1 h2
  unfold Nd.cells
  simp only at htb ⊢
  obtain ⟨H, hH⟩ : ∃ H, H = w.heap.size := ⟨_, rfl⟩
  have HH := Lib.hid hH
  have hH0 := heap_alloc_new w (.cells #[.int .i64 i, .int .i64 k, .int .i64 l, .int .i64 s, .int .u64 (t : Int), .bool c] 59)
  have hE0 := (Ext.refl w).alloc (.cells #[.int .i64 i, .int .i64 k, .int .i64 l, .int .i64 s, .int .u64 (t : Int), .bool c] 59)
  have hs0 := size_alloc w (.cells #[.int .i64 i, .int .i64 k, .int .i64 l, .int .i64 s, .int .u64 (t : Int), .bool c] 59)
  rw [← hH] at hH0 hE0 hs0 ⊢
  clear hH
  have hqm : (t : Int).tmod 1000 = ((t % 1000 : Nat) : Int) := by rw [Int.tmod_eq_emod_of_nonneg (by omega)]; omega
  have hT : t % 1000 < 1000 := Nat.mod_lt _ (by decide)
  have HWi := Lib.hid (fun w => within_any i 0 60000 w (by omega) (by omega) (by omega))
  have HWl := Lib.hid (fun w => within_any l 0 60000 w (by omega) (by omega) (by omega))
  have HWs := Lib.hid (fun w => within_any s 0 4000 w (by omega) (by omega) (by omega))
  have hi := within_bd i 0 60000 (by omega)
  have hl := within_bd l 0 60000 (by omega)
  have hs := within_bd s 0 4000 (by omega)
  generalize within i 0 60000 = I at *
  generalize within l 0 60000 = L at *
  generalize within s 0 4000 = S at *
  generalize t % 1000 = T at *
  go_enter Try.func11, Try.ntmps11
  go_upto_region 1 with fail
  rw [← HH.out]
  generalize w.alloc (.cells #[.int .i64 i, .int .i64 k, .int .i64 l, .int .i64 s, .int .u64 (t : Int), .bool c] 59) = w0 at *
  have HH0 := Lib.hid hH0
  obtain ⟨⟨c0, c1, c2, c3, c4, c5⟩, f0, f1, f2, f3, f4, f5⟩ := six_cells hH0
  clear hH0
  go_cut [] (fun wx => wx.heap[H]? = some (.cells #[.int .i64 I, .int .i64 1, .int .i64 L, .int .i64 S, .int .u64 (T : Int), .bool c] 59 (0, 0)) ∧ Ext H w wx ∧ H < wx.heap.size)
  case first =>
    have hH1 : w0.drew.heap[H]? = _ := HH0.out
    have hZ := cells_set (k := 4) (y := .int .u64 (T : Int)) (cells_set (k := 3) (y := .int .i64 S) (cells_set (k := 2) (y := .int .i64 L) (cells_set (k := 1) (y := .int .i64 1) (cells_set (k := 0) (y := .int .i64 I) hH1))))
    have HZ := Lib.hid hZ
    clear hZ hH1
    refine heldB_start (fun i => [1, 2, 4, 5, 7, 8, 10].contains i) (fun w' => w'.cell? ⟨H, 0, none⟩ = some (.int .i64 i) ∧ w'.cell? ⟨H, 2, none⟩ = some (.int .i64 l) ∧ w'.cell? ⟨H, 3, none⟩ = some (.int .i64 s) ∧ w'.cell? ⟨H, 4, none⟩ = some (.int .u64 (t : Int))) (by kernel_rfl) ?_ (fun hHeld => ?_)
    · go_keep
    refine heldB_free (i := 0) (v := ?_) 17 rfl (by kernel_rfl) (by kernel_rfl) (by kernel_rfl) (by kernel_rfl) (fun _ _ _ h => h) rfl (Or.inl ⟨by rfl, ?_⟩) ?_
    rotate_left
    · intro w hSw; (try dsimp only at hSw); go_simp; (try with_reducible rfl)
    simp only [List.set_cons_zero, List.set_cons_succ]
    refine heldB_free (i := 3) (v := ?_) 20 rfl (by kernel_rfl) (by kernel_rfl) (by kernel_rfl) (by kernel_rfl) (fun _ _ _ h => h) rfl (Or.inl ⟨by rfl, ?_⟩) ?_
    rotate_left
    · intro w hSw; (try dsimp only at hSw); go_simp; (try with_reducible rfl)
    simp only [List.set_cons_zero, List.set_cons_succ]
    refine heldB_free (i := 6) (v := ?_) 23 rfl (by kernel_rfl) (by kernel_rfl) (by kernel_rfl) (by kernel_rfl) (fun _ _ _ h => h) rfl (Or.inl ⟨by rfl, ?_⟩) ?_
    rotate_left
    · intro w hSw; (try dsimp only at hSw); go_simp; (try with_reducible rfl)
    simp only [List.set_cons_zero, List.set_cons_succ]
    refine heldB_free (i := 9) (v := ?_) 26 rfl (by kernel_rfl) (by kernel_rfl) (by kernel_rfl) (by kernel_rfl) (fun _ _ _ h => h) rfl (Or.inl ⟨by rfl, ?_⟩) ?_
    rotate_left
    · intro w hSw; (try dsimp only at hSw); go_simp; (try with_reducible rfl)
    simp only [List.set_cons_zero, List.set_cons_succ]
    refine heldB_take (i := 10) (v := ?_) 27 rfl (by kernel_rfl) (by kernel_rfl) (by kernel_rfl) (by kernel_rfl) (fun _ _ _ h => h) rfl (by assumption) (Or.inl ⟨by rfl, ?_⟩) ?_
    rotate_left
    · intro w hSw; (try dsimp only at hSw); go_simp; (try with_reducible rfl)
    simp only [List.set_cons_zero, List.set_cons_succ]
    refine heldB_free (i := 11) (v := ?_) 28 rfl (by kernel_rfl) (by kernel_rfl) (by kernel_rfl) (by kernel_rfl) (fun _ _ _ h => h) rfl (Or.inl ⟨by rfl, ?_⟩) ?_
    rotate_left
    · intro w hSw; (try dsimp only at hSw); go_simp; (try with_reducible rfl)
    simp only [List.set_cons_zero, List.set_cons_succ]
    refine heldB_take (i := 1) (v := ?_) 18 rfl (by kernel_rfl) (by kernel_rfl) (by kernel_rfl) (by kernel_rfl) (fun _ _ _ h => h) rfl (by assumption) (Or.inl ⟨by rfl, ?_⟩) ?_
    rotate_left
    · intro w hSw; (try dsimp only at hSw); go_simp; (try with_reducible rfl)
    simp only [List.set_cons_zero, List.set_cons_succ]
    refine heldB_take (i := 4) (v := ?_) 21 rfl (by kernel_rfl) (by kernel_rfl) (by kernel_rfl) (by kernel_rfl) (fun _ _ _ h => h) rfl (by assumption) (Or.inl ⟨by rfl, ?_⟩) ?_
    rotate_left
    · intro w hSw; (try dsimp only at hSw); go_simp; (try with_reducible rfl)
    simp only [List.set_cons_zero, List.set_cons_succ]
    refine heldB_take (i := 7) (v := ?_) 24 rfl (by kernel_rfl) (by kernel_rfl) (by kernel_rfl) (by kernel_rfl) (fun _ _ _ h => h) rfl (by assumption) (Or.inl ⟨by rfl, ?_⟩) ?_
    rotate_left
    · intro w hSw; (try dsimp only at hSw); go_simp; (try with_reducible rfl)
    simp only [List.set_cons_zero, List.set_cons_succ]
    refine heldB_one 2 (by kernel_rfl) rfl (fun K hK => ?_)
    go_simp
    refine (HWi.out _).mono ?_
    rintro e wq ⟨rfl, rfl⟩
    go_wp2_with fail
    refine hK.out _ _ (fun _ => hHeld) ?_
    clear hK K
    refine heldB_free (i := 12) (v := ?_) 29 rfl (by kernel_rfl) (by kernel_rfl) (by kernel_rfl) (by kernel_rfl) (fun _ _ _ h => h) rfl (Or.inl ⟨by rfl, ?_⟩) ?_
    rotate_left
    · intro w hSw; (try dsimp only at hSw); go_simp; (try with_reducible rfl)
    simp only [List.set_cons_zero, List.set_cons_succ]
    refine heldB_one 5 (by kernel_rfl) rfl (fun K hK => ?_)
    go_simp
    refine (HWl.out _).mono ?_
    rintro e wq ⟨rfl, rfl⟩
    go_wp2_with fail
    refine hK.out _ _ (fun _ => hHeld) ?_
    clear hK K
    refine heldB_one 8 (by kernel_rfl) rfl (fun K hK => ?_)
    go_simp
    refine (HWs.out _).mono ?_
    rintro e wq ⟨rfl, rfl⟩
    go_wp2_with fail
    refine hK.out _ _ (fun _ => hHeld) ?_
    clear hK K
    refine heldB_one 13 (by kernel_rfl) rfl (fun K hK => ?_)
    go_simp
    refine hK.out _ _ (fun h => by simp at h) ?_
    clear hK K
    refine heldB_free (i := 14) (v := ?_) 30 rfl (by kernel_rfl) (by kernel_rfl) (by kernel_rfl) (by kernel_rfl) (fun _ _ _ h => h) rfl (Or.inl ⟨by rfl, ?_⟩) ?_
    rotate_left
    · intro w hSw; (try dsimp only at hSw); go_simp; (try with_reducible rfl)
    simp only [List.set_cons_zero, List.set_cons_succ]
    refine heldB_one 15 (by kernel_rfl) rfl (fun K hK => ?_)
    go_simp
    refine hK.out _ _ (fun h => by simp at h) ?_
    clear hK K
    refine heldB_free (i := 16) (v := ?_) 31 rfl (by kernel_rfl) (by kernel_rfl) (by kernel_rfl) (by kernel_rfl) (fun _ _ _ h => h) rfl (Or.inl ⟨by rfl, ?_⟩) ?_
    rotate_left
    · intro w hSw; (try dsimp only at hSw); go_simp; (try with_reducible rfl)
    simp only [List.set_cons_zero, List.set_cons_succ]
    refine heldB_one 17 (by kernel_rfl) rfl (fun K hK => ?_)
    go_simp
    refine hK.out _ _ (fun h => by simp at h) ?_
    clear hK K
    refine heldB_free (i := 18) (v := ?_) 32 rfl (by kernel_rfl) (by kernel_rfl) (by kernel_rfl) (by kernel_rfl) (fun _ _ _ h => h) rfl (Or.inl ⟨by rfl, ?_⟩) ?_
    rotate_left
    · intro w hSw; (try dsimp only at hSw); go_simp; (try with_reducible rfl)
    simp only [List.set_cons_zero, List.set_cons_succ]
    refine heldB_one 19 (by kernel_rfl) rfl (fun K hK => ?_)
    go_simp
    refine hK.out _ _ (fun h => by simp at h) ?_
    clear hK K
    refine heldB_free (i := 20) (v := ?_) 33 rfl (by kernel_rfl) (by kernel_rfl) (by kernel_rfl) (by kernel_rfl) (fun _ _ _ h => h) rfl (Or.inl ⟨by rfl, ?_⟩) ?_
    rotate_left
    · intro w hSw; (try dsimp only at hSw); go_simp; (try with_reducible rfl)
    simp only [List.set_cons_zero, List.set_cons_succ]
    refine heldB_one 21 (by kernel_rfl) rfl (fun K hK => ?_)
    go_simp
    refine hK.out _ _ (fun h => by simp at h) ?_
    clear hK K
    refine heldB_done (by kernel_rfl) ?_ _
    go_wp2_with fail
    go_meet
    refine ⟨HZ.out, ?_, ?_⟩
    · exact (((((hE0.drew.setCell (p := ⟨H, 0, none⟩) (Nat.le_refl _) (.int .i64 I)).setCell (p := ⟨H, 1, none⟩) (Nat.le_refl _) (.int .i64 1)).setCell (p := ⟨H, 2, none⟩) (Nat.le_refl _) (.int .i64 L)).setCell (p := ⟨H, 3, none⟩) (Nat.le_refl _) (.int .i64 S)).setCell (p := ⟨H, 4, none⟩) (Nat.le_refl _) (.int .u64 (T : Int)))
    · simpa [World.setCell] using hs0
  case rest =>
    obtain ⟨hHc, hEc, hsc⟩ := hcut
    clear HWi HWl HWs hqm c0 c1 c2 c3 c4 c5 f0 f1 f2 f3 f4 f5 HH0 hE0 hs0
    obtain ⟨⟨c0, c1, c2, c3, c4, c5⟩, f0, f1, f2, f3, f4, f5⟩ := six_cells hHc
    have hZ1 := heap_alloc_new wc (.cells #[.int .i64 I, .int .i64 1, .int .i64 L, .int .i64 S, .int .u64 (T : Int), .bool c] 59)
    have hH1 := ((Below.refl _ _).alloc (Nat.le_refl _) (.cells #[.int .i64 I, .int .i64 1, .int .i64 L, .int .i64 S, .int .u64 (T : Int), .bool c] 59)).block H hsc |>.trans hHc
    have hE1 := hEc.alloc (.cells #[.int .i64 I, .int .i64 1, .int .i64 L, .int .i64 S, .int .u64 (T : Int), .bool c] 59)
    have hs1 := size_alloc wc (.cells #[.int .i64 I, .int .i64 1, .int .i64 L, .int .i64 S, .int .u64 (T : Int), .bool c] 59)
    obtain ⟨Z, hZ⟩ : ∃ Z, Z = wc.heap.size := ⟨_, rfl⟩
    rw [← hZ] at hZ1 hs1 hsc
    have HZ := Lib.hid hZ
    have HS1 := Lib.hid (And.intro hH1 hZ1)
    clear hHc hH1 hZ1 hZ hEc
    go_upto_region 3 with fail
    rw [← HZ.out]
    generalize wc.alloc (.cells #[.int .i64 I, .int .i64 1, .int .i64 L, .int .i64 S, .int .u64 (T : Int), .bool c] 59) = w1 at *
    clear c0 c1 c2 c3 c4 c5 f0 f1 f2 f3 f4 f5
    go_wp2_with fail
    refine (within_any by_ 0 90 _ (by omega) (by omega) (by omega)).mono ?_
    rintro e wq ⟨rfl, rfl⟩
    have hk := within_bd by_ 0 90 (by omega)
    generalize within by_ 0 90 = K0 at *
    obtain ⟨K, hK⟩ : ∃ K : Nat, (K : Int) = 1 + K0 := ⟨(1 + K0).toNat, by omega⟩
    have hKw : IntKind.i64.wrap (1 + K0) = (K : Int) := by rw [IntWalk.i64_in _ (by omega)]; exact hK.symm
    have hK1 : 1 ≤ K := by omega
    have hK2 : K ≤ 91 := by omega
    clear hK hk
    go_wp2_with fail
    refine (within_any which 0 4 _ (by omega) (by omega) (by omega)).mono ?_
    rintro e wq ⟨rfl, rfl⟩
    have hw := within_bd which 0 4 (by omega)
    generalize within which 0 4 = Wh at *
    have hWh : Wh = 0 ∨ Wh = 1 ∨ Wh = 2 ∨ Wh = 3 ∨ Wh = 4 := by omega
    clear hw
    have hnok : Nd.Ok ⟨I, 1, L, S, T, c⟩ := ⟨by dsimp only; omega, by dsimp only; omega, by dsimp only; omega, by dsimp only; omega, .inl ⟨rfl, by dsimp only; omega, by dsimp only; omega, by dsimp only; omega⟩⟩
    have HNOK := Lib.hid hnok
    obtain ⟨⟨d0, d1, d2, d3, d4, d5⟩, g0, g1, g2, g3, g4, g5⟩ := six_cells HS1.out.2
    clear hnok
    rcases hWh with rfl | rfl | rfl | rfl | rfl
    · obtain ⟨I2, hI2⟩ : ∃ I2, I2 = I + (K : Int) := ⟨_, rfl⟩
      have hwr : IntKind.i64.wrap (I + (K : Int)) = I2 := by rw [IntWalk.i64_in _ (by omega)]; exact hI2.symm
      have hmok : Nd.Ok ⟨I2, 1, L, S, T, c⟩ := ⟨by dsimp only; omega, by dsimp only; omega, by dsimp only; omega, by dsimp only; omega, .inl ⟨rfl, by dsimp only; omega, by dsimp only; omega, by dsimp only; omega⟩⟩
      have hab : (⟨I, 1, L, S, T, c⟩ : Nd) ≠ ⟨I2, 1, L, S, T, c⟩ := fun h => by have := congrArg Nd.id h; simp only at this; omega
      clear hI2
      have hZ2 := cells_set (k := 0) (y := .int .i64 I2) HS1.out.2
      have hH2 := cells_far (Z := Z) (k := 0) (y := .int .i64 I2) HS1.out.1 (by omega)
      have hE2 := hE1.setCell (p := ⟨Z, 0, none⟩) (by show H ≤ Z; omega) (.int .i64 I2)
      have hs2 : Z < (w1.setCell ⟨Z, 0, none⟩ (.int .i64 I2)).heap.size := by simpa [World.setCell] using hs1
      have HS : Hid ((w1.setCell ⟨Z, 0, none⟩ (.int .i64 I2)).heap[H]? = some (.cells #[.int .i64 I, .int .i64 1, .int .i64 L, .int .i64 S, .int .u64 (T : Int), .bool c] 59 (0, 0)) ∧ (w1.setCell ⟨Z, 0, none⟩ (.int .i64 I2)).heap[Z]? = some (.cells #[.int .i64 I2, .int .i64 1, .int .i64 L, .int .i64 S, .int .u64 ((T : Nat) : Int), .bool c] 59 (0, 0))) := Lib.hid (And.intro hH2 hZ2)
      clear hZ2 hH2
      go_upto_region 14 with fail
      generalize w1.setCell ⟨Z, 0, none⟩ (.int .i64 I2) = w2 at *
      clear hE1 hs1
      clear d0 d1 d2 d3 d4 d5 g0 g1 g2 g3 g4 g5
      have HEA := Lib.hid (fun w => nenc_ok ⟨I, 1, L, S, T, c⟩ w HNOK.out)
      have HEB := Lib.hid (fun w => nenc_ok ⟨I2, 1, L, S, T, c⟩ w hmok)
      have q1 := ndDec_bytes ⟨I, 1, L, S, T, c⟩ HNOK.out (by show T < 18446744073709551616; omega)
      have q2 := ndDec_bytes ⟨I2, 1, L, S, T, c⟩ hmok (by show T < 18446744073709551616; omega)
      have hAB : Nd.bytes ⟨I, 1, L, S, T, c⟩ ≠ Nd.bytes ⟨I2, 1, L, S, T, c⟩ := fun h => hab (by rw [h, q2] at q1; exact (Option.some.inj q1).symm)
      have HDA := Lib.hid (fun a cap w (h : Bs w a 16 cap (Nd.bytes ⟨I, 1, L, S, T, c⟩)) => ndec_any a 16 cap _ w h (by unfold big; decide))
      have HDB := Lib.hid (fun a cap w (h : Bs w a 16 cap (Nd.bytes ⟨I2, 1, L, S, T, c⟩)) => ndec_any a 16 cap _ w h (by unfold big; decide))
      rw [q1] at HDA
      rw [q2] at HDB
      have he1 := fun w => nd_eql_self ⟨I, 1, L, S, T, c⟩ w
      have he2 := fun w => nd_eql_self ⟨I2, 1, L, S, T, c⟩ w
      have he3 := fun w => nd_neq_ne _ _ hab w
      unfold decV at HDA HDB
      unfold Nd.cells at HEA HEB HDA HDB he1 he2 he3
      simp only [Option.getD_some, Option.isSome_some, if_true] at HEA HEB HDA HDB he1 he2 he3
      have HQ := Lib.hid (And.intro he1 (And.intro he2 he3))
      have hLA := Nd.bytes_length ⟨I, 1, L, S, T, c⟩
      have hLB := Nd.bytes_length ⟨I2, 1, L, S, T, c⟩
      generalize Nd.bytes ⟨I, 1, L, S, T, c⟩ = A at *
      generalize Nd.bytes ⟨I2, 1, L, S, T, c⟩ = B at *
      have hne : ((strOf A).toList == (strOf B).toList) = false := by rw [strOf_toList, strOf_toList, beq_eq_false_iff_ne]; exact hAB
      have HNE := Lib.hid hne
      clear hne hAB q1 q2 he1 he2 he3 hab hmok
      obtain ⟨⟨c0, c1, c2, c3, c4, c5⟩, f0, f1, f2, f3, f4, f5⟩ := six_cells HS.out.1
      go_wp2_with fail
      refine (HEA.out _).mono ?_
      rintro e w3 ⟨va, rfl, hoa, hb3⟩
      obtain ⟨aa, ka, rfl, hBa⟩ := hoa.bsn hLA
      have hE3 := hE2.step hb3
      have HS3 := Lib.hid (And.intro ((hb3.block H (by omega)).trans HS.out.1) ((hb3.block Z hs2).trans HS.out.2))
      have hs3 := Nat.lt_of_lt_of_le hs2 hb3.size
      clear c0 c1 c2 c3 c4 c5 f0 f1 f2 f3 f4 f5 hE2 hb3 hoa HEA
      obtain ⟨⟨d0, d1, d2, d3, d4, d5⟩, g0, g1, g2, g3, g4, g5⟩ := six_cells HS3.out.2
      go_wp2_with fail
      refine (HEB.out _).mono ?_
      rintro e w4 ⟨vb, rfl, hob, hb4⟩
      obtain ⟨ab, kb, rfl, hBb⟩ := hob.bsn hLB
      have hE4 := hE3.step hb4
      have hBa4 := hBa.below hb4
      have HS4 := Lib.hid (And.intro ((hb4.block H (by omega)).trans HS3.out.1) ((hb4.block Z hs3).trans HS3.out.2))
      have hs4 := Nat.lt_of_lt_of_le hs3 hb4.size
      clear d0 d1 d2 d3 d4 d5 g0 g1 g2 g3 g4 g5 hE3 hb4 hob HEB hBa
      go_wp2_with fail
      refine (HDA.out _ _ _ hBa4).mono ?_
      rintro e w5 ⟨rfl, hb5⟩
      have hE5 := (hE4.step hb5).alloc (.cells #[.int .i64 I, .int .i64 1, .int .i64 L, .int .i64 S, .int .u64 (T : Int), .bool c] 59)
      have hb5a := hb5.alloc hb5.size (.cells #[.int .i64 I, .int .i64 1, .int .i64 L, .int .i64 S, .int .u64 (T : Int), .bool c] 59)
      have hBa5 := hBa4.below hb5a
      have hBb5 := hBb.below hb5a
      have hX5 := heap_alloc_new w5 (.cells #[.int .i64 I, .int .i64 1, .int .i64 L, .int .i64 S, .int .u64 (T : Int), .bool c] 59)
      have hs5 := size_alloc w5 (.cells #[.int .i64 I, .int .i64 1, .int .i64 L, .int .i64 S, .int .u64 (T : Int), .bool c] 59)
      have HS5 := Lib.hid (And.intro ((hb5a.block H (by omega)).trans HS4.out.1) ((hb5a.block Z hs4).trans HS4.out.2))
      have hs5z := Nat.lt_of_lt_of_le hs4 hb5a.size
      have hs5zz := Nat.lt_of_lt_of_le hs4 hb5.size
      obtain ⟨X, hX⟩ : ∃ X, X = w5.heap.size := ⟨_, rfl⟩
      rw [← hX] at hX5 hs5 hs5zz
      have HX := Lib.hid hX
      have HX5 := Lib.hid hX5
      clear hX hX5 hb5 hb5a hE4 hBa4 hBb HDA
      go_upto_region 17 with fail
      rw [← HX.out]
      generalize w5.alloc (.cells #[.int .i64 I, .int .i64 1, .int .i64 L, .int .i64 S, .int .u64 (T : Int), .bool c] 59) = w6 at *
      go_wp2_with fail
      refine (HDB.out _ _ _ hBb5).mono ?_
      rintro e w7 ⟨rfl, hb7⟩
      have hE7 := (hE5.step hb7).alloc (.cells #[.int .i64 I2, .int .i64 1, .int .i64 L, .int .i64 S, .int .u64 (T : Int), .bool c] 59)
      have hb7a := hb7.alloc hb7.size (.cells #[.int .i64 I2, .int .i64 1, .int .i64 L, .int .i64 S, .int .u64 (T : Int), .bool c] 59)
      have hBa7 := hBa5.below hb7a
      have hBb7 := hBb5.below hb7a
      have hY7 := heap_alloc_new w7 (.cells #[.int .i64 I2, .int .i64 1, .int .i64 L, .int .i64 S, .int .u64 (T : Int), .bool c] 59)
      have HS7 := Lib.hid (And.intro ((hb7a.block H (by omega)).trans HS5.out.1) (And.intro ((hb7a.block Z hs5z).trans HS5.out.2) ((hb7a.block X hs5).trans HX5.out)))
      obtain ⟨Y, hY⟩ : ∃ Y, Y = w7.heap.size := ⟨_, rfl⟩
      rw [← hY] at hY7
      have HY := Lib.hid hY
      have HY7 := Lib.hid hY7
      clear hY hY7 hb7 hb7a hE5 hBa5 hBb5 HDB
      go_upto_region 18 with fail
      rw [← HY.out]
      generalize w7.alloc (.cells #[.int .i64 I2, .int .i64 1, .int .i64 L, .int .i64 S, .int .u64 (T : Int), .bool c] 59) = w8 at *
      obtain ⟨⟨c0, c1, c2, c3, c4, c5⟩, f0, f1, f2, f3, f4, f5⟩ := six_cells HS7.out.1
      obtain ⟨⟨d0, d1, d2, d3, d4, d5⟩, g0, g1, g2, g3, g4, g5⟩ := six_cells HS7.out.2.1
      obtain ⟨⟨x0, x1, x2, x3, x4, x5⟩, _⟩ := six_cells HS7.out.2.2
      obtain ⟨⟨y0, y1, y2, y3, y4, y5⟩, _⟩ := six_cells HY7.out
      have hsa := run_string hBa7
      have hsb := run_string hBb7
      have hne := HNE.out
      obtain ⟨he1, he2, he3⟩ := HQ.out
      clear hBa7 hBb7
      go_wp2_with fail
      refine (node_known _).mono ?_
      rintro e w9 ⟨rfl, hb9⟩
      go_wp2_with fail
      go_ret
      exact ⟨rfl, (hE7.step hb9).1⟩
    · obtain ⟨L2, hL2⟩ : ∃ L2, L2 = L + (K : Int) := ⟨_, rfl⟩
      have hwr : IntKind.i64.wrap (L + (K : Int)) = L2 := by rw [IntWalk.i64_in _ (by omega)]; exact hL2.symm
      have hmok : Nd.Ok ⟨I, 1, L2, S, T, c⟩ := ⟨by dsimp only; omega, by dsimp only; omega, by dsimp only; omega, by dsimp only; omega, .inl ⟨rfl, by dsimp only; omega, by dsimp only; omega, by dsimp only; omega⟩⟩
      have hab : (⟨I, 1, L, S, T, c⟩ : Nd) ≠ ⟨I, 1, L2, S, T, c⟩ := fun h => by have := congrArg Nd.links h; simp only at this; omega
      clear hL2
      have hZ2 := cells_set (k := 2) (y := .int .i64 L2) HS1.out.2
      have hH2 := cells_far (Z := Z) (k := 2) (y := .int .i64 L2) HS1.out.1 (by omega)
      have hE2 := hE1.setCell (p := ⟨Z, 2, none⟩) (by show H ≤ Z; omega) (.int .i64 L2)
      have hs2 : Z < (w1.setCell ⟨Z, 2, none⟩ (.int .i64 L2)).heap.size := by simpa [World.setCell] using hs1
      have HS : Hid ((w1.setCell ⟨Z, 2, none⟩ (.int .i64 L2)).heap[H]? = some (.cells #[.int .i64 I, .int .i64 1, .int .i64 L, .int .i64 S, .int .u64 (T : Int), .bool c] 59 (0, 0)) ∧ (w1.setCell ⟨Z, 2, none⟩ (.int .i64 L2)).heap[Z]? = some (.cells #[.int .i64 I, .int .i64 1, .int .i64 L2, .int .i64 S, .int .u64 ((T : Nat) : Int), .bool c] 59 (0, 0))) := Lib.hid (And.intro hH2 hZ2)
      clear hZ2 hH2
      go_upto_region 14 with fail
      generalize w1.setCell ⟨Z, 2, none⟩ (.int .i64 L2) = w2 at *
      clear hE1 hs1
      clear d0 d1 d2 d3 d4 d5 g0 g1 g2 g3 g4 g5
      have HEA := Lib.hid (fun w => nenc_ok ⟨I, 1, L, S, T, c⟩ w HNOK.out)
      have HEB := Lib.hid (fun w => nenc_ok ⟨I, 1, L2, S, T, c⟩ w hmok)
      have q1 := ndDec_bytes ⟨I, 1, L, S, T, c⟩ HNOK.out (by show T < 18446744073709551616; omega)
      have q2 := ndDec_bytes ⟨I, 1, L2, S, T, c⟩ hmok (by show T < 18446744073709551616; omega)
      have hAB : Nd.bytes ⟨I, 1, L, S, T, c⟩ ≠ Nd.bytes ⟨I, 1, L2, S, T, c⟩ := fun h => hab (by rw [h, q2] at q1; exact (Option.some.inj q1).symm)
      have HDA := Lib.hid (fun a cap w (h : Bs w a 16 cap (Nd.bytes ⟨I, 1, L, S, T, c⟩)) => ndec_any a 16 cap _ w h (by unfold big; decide))
      have HDB := Lib.hid (fun a cap w (h : Bs w a 16 cap (Nd.bytes ⟨I, 1, L2, S, T, c⟩)) => ndec_any a 16 cap _ w h (by unfold big; decide))
      rw [q1] at HDA
      rw [q2] at HDB
      have he1 := fun w => nd_eql_self ⟨I, 1, L, S, T, c⟩ w
      have he2 := fun w => nd_eql_self ⟨I, 1, L2, S, T, c⟩ w
      have he3 := fun w => nd_neq_ne _ _ hab w
      unfold decV at HDA HDB
      unfold Nd.cells at HEA HEB HDA HDB he1 he2 he3
      simp only [Option.getD_some, Option.isSome_some, if_true] at HEA HEB HDA HDB he1 he2 he3
      have HQ := Lib.hid (And.intro he1 (And.intro he2 he3))
      have hLA := Nd.bytes_length ⟨I, 1, L, S, T, c⟩
      have hLB := Nd.bytes_length ⟨I, 1, L2, S, T, c⟩
      generalize Nd.bytes ⟨I, 1, L, S, T, c⟩ = A at *
      generalize Nd.bytes ⟨I, 1, L2, S, T, c⟩ = B at *
      have hne : ((strOf A).toList == (strOf B).toList) = false := by rw [strOf_toList, strOf_toList, beq_eq_false_iff_ne]; exact hAB
      have HNE := Lib.hid hne
      clear hne hAB q1 q2 he1 he2 he3 hab hmok
      obtain ⟨⟨c0, c1, c2, c3, c4, c5⟩, f0, f1, f2, f3, f4, f5⟩ := six_cells HS.out.1
      go_wp2_with fail
      refine (HEA.out _).mono ?_
      rintro e w3 ⟨va, rfl, hoa, hb3⟩
      obtain ⟨aa, ka, rfl, hBa⟩ := hoa.bsn hLA
      have hE3 := hE2.step hb3
      have HS3 := Lib.hid (And.intro ((hb3.block H (by omega)).trans HS.out.1) ((hb3.block Z hs2).trans HS.out.2))
      have hs3 := Nat.lt_of_lt_of_le hs2 hb3.size
      clear c0 c1 c2 c3 c4 c5 f0 f1 f2 f3 f4 f5 hE2 hb3 hoa HEA
      obtain ⟨⟨d0, d1, d2, d3, d4, d5⟩, g0, g1, g2, g3, g4, g5⟩ := six_cells HS3.out.2
      go_wp2_with fail
      refine (HEB.out _).mono ?_
      rintro e w4 ⟨vb, rfl, hob, hb4⟩
      obtain ⟨ab, kb, rfl, hBb⟩ := hob.bsn hLB
      have hE4 := hE3.step hb4
      have hBa4 := hBa.below hb4
      have HS4 := Lib.hid (And.intro ((hb4.block H (by omega)).trans HS3.out.1) ((hb4.block Z hs3).trans HS3.out.2))
      have hs4 := Nat.lt_of_lt_of_le hs3 hb4.size
      clear d0 d1 d2 d3 d4 d5 g0 g1 g2 g3 g4 g5 hE3 hb4 hob HEB hBa
      go_wp2_with fail
      refine (HDA.out _ _ _ hBa4).mono ?_
      rintro e w5 ⟨rfl, hb5⟩
      have hE5 := (hE4.step hb5).alloc (.cells #[.int .i64 I, .int .i64 1, .int .i64 L, .int .i64 S, .int .u64 (T : Int), .bool c] 59)
      have hb5a := hb5.alloc hb5.size (.cells #[.int .i64 I, .int .i64 1, .int .i64 L, .int .i64 S, .int .u64 (T : Int), .bool c] 59)
      have hBa5 := hBa4.below hb5a
      have hBb5 := hBb.below hb5a
      have hX5 := heap_alloc_new w5 (.cells #[.int .i64 I, .int .i64 1, .int .i64 L, .int .i64 S, .int .u64 (T : Int), .bool c] 59)
      have hs5 := size_alloc w5 (.cells #[.int .i64 I, .int .i64 1, .int .i64 L, .int .i64 S, .int .u64 (T : Int), .bool c] 59)
      have HS5 := Lib.hid (And.intro ((hb5a.block H (by omega)).trans HS4.out.1) ((hb5a.block Z hs4).trans HS4.out.2))
      have hs5z := Nat.lt_of_lt_of_le hs4 hb5a.size
      have hs5zz := Nat.lt_of_lt_of_le hs4 hb5.size
      obtain ⟨X, hX⟩ : ∃ X, X = w5.heap.size := ⟨_, rfl⟩
      rw [← hX] at hX5 hs5 hs5zz
      have HX := Lib.hid hX
      have HX5 := Lib.hid hX5
      clear hX hX5 hb5 hb5a hE4 hBa4 hBb HDA
      go_upto_region 17 with fail
      rw [← HX.out]
      generalize w5.alloc (.cells #[.int .i64 I, .int .i64 1, .int .i64 L, .int .i64 S, .int .u64 (T : Int), .bool c] 59) = w6 at *
      go_wp2_with fail
      refine (HDB.out _ _ _ hBb5).mono ?_
      rintro e w7 ⟨rfl, hb7⟩
      have hE7 := (hE5.step hb7).alloc (.cells #[.int .i64 I, .int .i64 1, .int .i64 L2, .int .i64 S, .int .u64 (T : Int), .bool c] 59)
      have hb7a := hb7.alloc hb7.size (.cells #[.int .i64 I, .int .i64 1, .int .i64 L2, .int .i64 S, .int .u64 (T : Int), .bool c] 59)
      have hBa7 := hBa5.below hb7a
      have hBb7 := hBb5.below hb7a
      have hY7 := heap_alloc_new w7 (.cells #[.int .i64 I, .int .i64 1, .int .i64 L2, .int .i64 S, .int .u64 (T : Int), .bool c] 59)
      have HS7 := Lib.hid (And.intro ((hb7a.block H (by omega)).trans HS5.out.1) (And.intro ((hb7a.block Z hs5z).trans HS5.out.2) ((hb7a.block X hs5).trans HX5.out)))
      obtain ⟨Y, hY⟩ : ∃ Y, Y = w7.heap.size := ⟨_, rfl⟩
      rw [← hY] at hY7
      have HY := Lib.hid hY
      have HY7 := Lib.hid hY7
      clear hY hY7 hb7 hb7a hE5 hBa5 hBb5 HDB
      go_upto_region 18 with fail
      rw [← HY.out]
      generalize w7.alloc (.cells #[.int .i64 I, .int .i64 1, .int .i64 L2, .int .i64 S, .int .u64 (T : Int), .bool c] 59) = w8 at *
      obtain ⟨⟨c0, c1, c2, c3, c4, c5⟩, f0, f1, f2, f3, f4, f5⟩ := six_cells HS7.out.1
      obtain ⟨⟨d0, d1, d2, d3, d4, d5⟩, g0, g1, g2, g3, g4, g5⟩ := six_cells HS7.out.2.1
      obtain ⟨⟨x0, x1, x2, x3, x4, x5⟩, _⟩ := six_cells HS7.out.2.2
      obtain ⟨⟨y0, y1, y2, y3, y4, y5⟩, _⟩ := six_cells HY7.out
      have hsa := run_string hBa7
      have hsb := run_string hBb7
      have hne := HNE.out
      obtain ⟨he1, he2, he3⟩ := HQ.out
      clear hBa7 hBb7
      go_wp2_with fail
      refine (node_known _).mono ?_
      rintro e w9 ⟨rfl, hb9⟩
      go_wp2_with fail
      go_ret
      exact ⟨rfl, (hE7.step hb9).1⟩
    · obtain ⟨S2, hS2⟩ : ∃ S2, S2 = S + (K : Int) := ⟨_, rfl⟩
      have hwr : IntKind.i64.wrap (S + (K : Int)) = S2 := by rw [IntWalk.i64_in _ (by omega)]; exact hS2.symm
      have hmok : Nd.Ok ⟨I, 1, L, S2, T, c⟩ := ⟨by dsimp only; omega, by dsimp only; omega, by dsimp only; omega, by dsimp only; omega, .inl ⟨rfl, by dsimp only; omega, by dsimp only; omega, by dsimp only; omega⟩⟩
      have hab : (⟨I, 1, L, S, T, c⟩ : Nd) ≠ ⟨I, 1, L, S2, T, c⟩ := fun h => by have := congrArg Nd.size h; simp only at this; omega
      clear hS2
      have hZ2 := cells_set (k := 3) (y := .int .i64 S2) HS1.out.2
      have hH2 := cells_far (Z := Z) (k := 3) (y := .int .i64 S2) HS1.out.1 (by omega)
      have hE2 := hE1.setCell (p := ⟨Z, 3, none⟩) (by show H ≤ Z; omega) (.int .i64 S2)
      have hs2 : Z < (w1.setCell ⟨Z, 3, none⟩ (.int .i64 S2)).heap.size := by simpa [World.setCell] using hs1
      have HS : Hid ((w1.setCell ⟨Z, 3, none⟩ (.int .i64 S2)).heap[H]? = some (.cells #[.int .i64 I, .int .i64 1, .int .i64 L, .int .i64 S, .int .u64 (T : Int), .bool c] 59 (0, 0)) ∧ (w1.setCell ⟨Z, 3, none⟩ (.int .i64 S2)).heap[Z]? = some (.cells #[.int .i64 I, .int .i64 1, .int .i64 L, .int .i64 S2, .int .u64 ((T : Nat) : Int), .bool c] 59 (0, 0))) := Lib.hid (And.intro hH2 hZ2)
      clear hZ2 hH2
      go_upto_region 14 with fail
      generalize w1.setCell ⟨Z, 3, none⟩ (.int .i64 S2) = w2 at *
      clear hE1 hs1
      clear d0 d1 d2 d3 d4 d5 g0 g1 g2 g3 g4 g5
      have HEA := Lib.hid (fun w => nenc_ok ⟨I, 1, L, S, T, c⟩ w HNOK.out)
      have HEB := Lib.hid (fun w => nenc_ok ⟨I, 1, L, S2, T, c⟩ w hmok)
      have q1 := ndDec_bytes ⟨I, 1, L, S, T, c⟩ HNOK.out (by show T < 18446744073709551616; omega)
      have q2 := ndDec_bytes ⟨I, 1, L, S2, T, c⟩ hmok (by show T < 18446744073709551616; omega)
      have hAB : Nd.bytes ⟨I, 1, L, S, T, c⟩ ≠ Nd.bytes ⟨I, 1, L, S2, T, c⟩ := fun h => hab (by rw [h, q2] at q1; exact (Option.some.inj q1).symm)
      have HDA := Lib.hid (fun a cap w (h : Bs w a 16 cap (Nd.bytes ⟨I, 1, L, S, T, c⟩)) => ndec_any a 16 cap _ w h (by unfold big; decide))
      have HDB := Lib.hid (fun a cap w (h : Bs w a 16 cap (Nd.bytes ⟨I, 1, L, S2, T, c⟩)) => ndec_any a 16 cap _ w h (by unfold big; decide))
      rw [q1] at HDA
      rw [q2] at HDB
      have he1 := fun w => nd_eql_self ⟨I, 1, L, S, T, c⟩ w
      have he2 := fun w => nd_eql_self ⟨I, 1, L, S2, T, c⟩ w
      have he3 := fun w => nd_neq_ne _ _ hab w
      unfold decV at HDA HDB
      unfold Nd.cells at HEA HEB HDA HDB he1 he2 he3
      simp only [Option.getD_some, Option.isSome_some, if_true] at HEA HEB HDA HDB he1 he2 he3
      have HQ := Lib.hid (And.intro he1 (And.intro he2 he3))
      have hLA := Nd.bytes_length ⟨I, 1, L, S, T, c⟩
      have hLB := Nd.bytes_length ⟨I, 1, L, S2, T, c⟩
      generalize Nd.bytes ⟨I, 1, L, S, T, c⟩ = A at *
      generalize Nd.bytes ⟨I, 1, L, S2, T, c⟩ = B at *
      have hne : ((strOf A).toList == (strOf B).toList) = false := by rw [strOf_toList, strOf_toList, beq_eq_false_iff_ne]; exact hAB
      have HNE := Lib.hid hne
      clear hne hAB q1 q2 he1 he2 he3 hab hmok
      obtain ⟨⟨c0, c1, c2, c3, c4, c5⟩, f0, f1, f2, f3, f4, f5⟩ := six_cells HS.out.1
      go_wp2_with fail
      refine (HEA.out _).mono ?_
      rintro e w3 ⟨va, rfl, hoa, hb3⟩
      obtain ⟨aa, ka, rfl, hBa⟩ := hoa.bsn hLA
      have hE3 := hE2.step hb3
      have HS3 := Lib.hid (And.intro ((hb3.block H (by omega)).trans HS.out.1) ((hb3.block Z hs2).trans HS.out.2))
      have hs3 := Nat.lt_of_lt_of_le hs2 hb3.size
      clear c0 c1 c2 c3 c4 c5 f0 f1 f2 f3 f4 f5 hE2 hb3 hoa HEA
      obtain ⟨⟨d0, d1, d2, d3, d4, d5⟩, g0, g1, g2, g3, g4, g5⟩ := six_cells HS3.out.2
      go_wp2_with fail
      refine (HEB.out _).mono ?_
      rintro e w4 ⟨vb, rfl, hob, hb4⟩
      obtain ⟨ab, kb, rfl, hBb⟩ := hob.bsn hLB
      have hE4 := hE3.step hb4
      have hBa4 := hBa.below hb4
      have HS4 := Lib.hid (And.intro ((hb4.block H (by omega)).trans HS3.out.1) ((hb4.block Z hs3).trans HS3.out.2))
      have hs4 := Nat.lt_of_lt_of_le hs3 hb4.size
      clear d0 d1 d2 d3 d4 d5 g0 g1 g2 g3 g4 g5 hE3 hb4 hob HEB hBa
      go_wp2_with fail
      refine (HDA.out _ _ _ hBa4).mono ?_
      rintro e w5 ⟨rfl, hb5⟩
      have hE5 := (hE4.step hb5).alloc (.cells #[.int .i64 I, .int .i64 1, .int .i64 L, .int .i64 S, .int .u64 (T : Int), .bool c] 59)
      have hb5a := hb5.alloc hb5.size (.cells #[.int .i64 I, .int .i64 1, .int .i64 L, .int .i64 S, .int .u64 (T : Int), .bool c] 59)
      have hBa5 := hBa4.below hb5a
      have hBb5 := hBb.below hb5a
      have hX5 := heap_alloc_new w5 (.cells #[.int .i64 I, .int .i64 1, .int .i64 L, .int .i64 S, .int .u64 (T : Int), .bool c] 59)
      have hs5 := size_alloc w5 (.cells #[.int .i64 I, .int .i64 1, .int .i64 L, .int .i64 S, .int .u64 (T : Int), .bool c] 59)
      have HS5 := Lib.hid (And.intro ((hb5a.block H (by omega)).trans HS4.out.1) ((hb5a.block Z hs4).trans HS4.out.2))
      have hs5z := Nat.lt_of_lt_of_le hs4 hb5a.size
      have hs5zz := Nat.lt_of_lt_of_le hs4 hb5.size
      obtain ⟨X, hX⟩ : ∃ X, X = w5.heap.size := ⟨_, rfl⟩
      rw [← hX] at hX5 hs5 hs5zz
      have HX := Lib.hid hX
      have HX5 := Lib.hid hX5
      clear hX hX5 hb5 hb5a hE4 hBa4 hBb HDA
      go_upto_region 17 with fail
      rw [← HX.out]
      generalize w5.alloc (.cells #[.int .i64 I, .int .i64 1, .int .i64 L, .int .i64 S, .int .u64 (T : Int), .bool c] 59) = w6 at *
      go_wp2_with fail
      refine (HDB.out _ _ _ hBb5).mono ?_
      rintro e w7 ⟨rfl, hb7⟩
      have hE7 := (hE5.step hb7).alloc (.cells #[.int .i64 I, .int .i64 1, .int .i64 L, .int .i64 S2, .int .u64 (T : Int), .bool c] 59)
      have hb7a := hb7.alloc hb7.size (.cells #[.int .i64 I, .int .i64 1, .int .i64 L, .int .i64 S2, .int .u64 (T : Int), .bool c] 59)
      have hBa7 := hBa5.below hb7a
      have hBb7 := hBb5.below hb7a
      have hY7 := heap_alloc_new w7 (.cells #[.int .i64 I, .int .i64 1, .int .i64 L, .int .i64 S2, .int .u64 (T : Int), .bool c] 59)
      have HS7 := Lib.hid (And.intro ((hb7a.block H (by omega)).trans HS5.out.1) (And.intro ((hb7a.block Z hs5z).trans HS5.out.2) ((hb7a.block X hs5).trans HX5.out)))
      obtain ⟨Y, hY⟩ : ∃ Y, Y = w7.heap.size := ⟨_, rfl⟩
      rw [← hY] at hY7
      have HY := Lib.hid hY
      have HY7 := Lib.hid hY7
      clear hY hY7 hb7 hb7a hE5 hBa5 hBb5 HDB
      go_upto_region 18 with fail
      rw [← HY.out]
      generalize w7.alloc (.cells #[.int .i64 I, .int .i64 1, .int .i64 L, .int .i64 S2, .int .u64 (T : Int), .bool c] 59) = w8 at *
      obtain ⟨⟨c0, c1, c2, c3, c4, c5⟩, f0, f1, f2, f3, f4, f5⟩ := six_cells HS7.out.1
      obtain ⟨⟨d0, d1, d2, d3, d4, d5⟩, g0, g1, g2, g3, g4, g5⟩ := six_cells HS7.out.2.1
      obtain ⟨⟨x0, x1, x2, x3, x4, x5⟩, _⟩ := six_cells HS7.out.2.2
      obtain ⟨⟨y0, y1, y2, y3, y4, y5⟩, _⟩ := six_cells HY7.out
      have hsa := run_string hBa7
      have hsb := run_string hBb7
      have hne := HNE.out
      obtain ⟨he1, he2, he3⟩ := HQ.out
      clear hBa7 hBb7
      go_wp2_with fail
      refine (node_known _).mono ?_
      rintro e w9 ⟨rfl, hb9⟩
      go_wp2_with fail
      go_ret
      exact ⟨rfl, (hE7.step hb9).1⟩
    · obtain ⟨T2, hT2⟩ : ∃ T2, T2 = T + K := ⟨_, rfl⟩
      have hwr : IntKind.u64.wrap ((T : Int) + (K : Int)) = (T2 : Int) := by rw [IntKind.wrap_u64]; omega
      have hmok : Nd.Ok ⟨I, 1, L, S, T2, c⟩ := ⟨by dsimp only; omega, by dsimp only; omega, by dsimp only; omega, by dsimp only; omega, .inl ⟨rfl, by dsimp only; omega, by dsimp only; omega, by dsimp only; omega⟩⟩
      have hab : (⟨I, 1, L, S, T, c⟩ : Nd) ≠ ⟨I, 1, L, S, T2, c⟩ := fun h => by have := congrArg Nd.til h; simp only at this; omega
      have hT3 : T2 < 2000 := by omega
      clear hT2
      have hZ2 := cells_set (k := 4) (y := .int .u64 (T2 : Int)) HS1.out.2
      have hH2 := cells_far (Z := Z) (k := 4) (y := .int .u64 (T2 : Int)) HS1.out.1 (by omega)
      have hE2 := hE1.setCell (p := ⟨Z, 4, none⟩) (by show H ≤ Z; omega) (.int .u64 (T2 : Int))
      have hs2 : Z < (w1.setCell ⟨Z, 4, none⟩ (.int .u64 (T2 : Int))).heap.size := by simpa [World.setCell] using hs1
      have HS : Hid ((w1.setCell ⟨Z, 4, none⟩ (.int .u64 (T2 : Int))).heap[H]? = some (.cells #[.int .i64 I, .int .i64 1, .int .i64 L, .int .i64 S, .int .u64 (T : Int), .bool c] 59 (0, 0)) ∧ (w1.setCell ⟨Z, 4, none⟩ (.int .u64 (T2 : Int))).heap[Z]? = some (.cells #[.int .i64 I, .int .i64 1, .int .i64 L, .int .i64 S, .int .u64 ((T2 : Nat) : Int), .bool c] 59 (0, 0))) := Lib.hid (And.intro hH2 hZ2)
      clear hZ2 hH2
      go_upto_region 14 with fail
      generalize w1.setCell ⟨Z, 4, none⟩ (.int .u64 (T2 : Int)) = w2 at *
      clear hE1 hs1
      clear d0 d1 d2 d3 d4 d5 g0 g1 g2 g3 g4 g5
      have HEA := Lib.hid (fun w => nenc_ok ⟨I, 1, L, S, T, c⟩ w HNOK.out)
      have HEB := Lib.hid (fun w => nenc_ok ⟨I, 1, L, S, T2, c⟩ w hmok)
      have q1 := ndDec_bytes ⟨I, 1, L, S, T, c⟩ HNOK.out (by show T < 18446744073709551616; omega)
      have q2 := ndDec_bytes ⟨I, 1, L, S, T2, c⟩ hmok (by show T2 < 18446744073709551616; omega)
      have hAB : Nd.bytes ⟨I, 1, L, S, T, c⟩ ≠ Nd.bytes ⟨I, 1, L, S, T2, c⟩ := fun h => hab (by rw [h, q2] at q1; exact (Option.some.inj q1).symm)
      have HDA := Lib.hid (fun a cap w (h : Bs w a 16 cap (Nd.bytes ⟨I, 1, L, S, T, c⟩)) => ndec_any a 16 cap _ w h (by unfold big; decide))
      have HDB := Lib.hid (fun a cap w (h : Bs w a 16 cap (Nd.bytes ⟨I, 1, L, S, T2, c⟩)) => ndec_any a 16 cap _ w h (by unfold big; decide))
      rw [q1] at HDA
      rw [q2] at HDB
      have he1 := fun w => nd_eql_self ⟨I, 1, L, S, T, c⟩ w
      have he2 := fun w => nd_eql_self ⟨I, 1, L, S, T2, c⟩ w
      have he3 := fun w => nd_neq_ne _ _ hab w
      unfold decV at HDA HDB
      unfold Nd.cells at HEA HEB HDA HDB he1 he2 he3
      simp only [Option.getD_some, Option.isSome_some, if_true] at HEA HEB HDA HDB he1 he2 he3
      have HQ := Lib.hid (And.intro he1 (And.intro he2 he3))
      have hLA := Nd.bytes_length ⟨I, 1, L, S, T, c⟩
      have hLB := Nd.bytes_length ⟨I, 1, L, S, T2, c⟩
      generalize Nd.bytes ⟨I, 1, L, S, T, c⟩ = A at *
      generalize Nd.bytes ⟨I, 1, L, S, T2, c⟩ = B at *
      have hne : ((strOf A).toList == (strOf B).toList) = false := by rw [strOf_toList, strOf_toList, beq_eq_false_iff_ne]; exact hAB
      have HNE := Lib.hid hne
      clear hne hAB q1 q2 he1 he2 he3 hab hmok
      obtain ⟨⟨c0, c1, c2, c3, c4, c5⟩, f0, f1, f2, f3, f4, f5⟩ := six_cells HS.out.1
      go_wp2_with fail
      refine (HEA.out _).mono ?_
      rintro e w3 ⟨va, rfl, hoa, hb3⟩
      obtain ⟨aa, ka, rfl, hBa⟩ := hoa.bsn hLA
      have hE3 := hE2.step hb3
      have HS3 := Lib.hid (And.intro ((hb3.block H (by omega)).trans HS.out.1) ((hb3.block Z hs2).trans HS.out.2))
      have hs3 := Nat.lt_of_lt_of_le hs2 hb3.size
      clear c0 c1 c2 c3 c4 c5 f0 f1 f2 f3 f4 f5 hE2 hb3 hoa HEA
      obtain ⟨⟨d0, d1, d2, d3, d4, d5⟩, g0, g1, g2, g3, g4, g5⟩ := six_cells HS3.out.2
      go_wp2_with fail
      refine (HEB.out _).mono ?_
      rintro e w4 ⟨vb, rfl, hob, hb4⟩
      obtain ⟨ab, kb, rfl, hBb⟩ := hob.bsn hLB
      have hE4 := hE3.step hb4
      have hBa4 := hBa.below hb4
      have HS4 := Lib.hid (And.intro ((hb4.block H (by omega)).trans HS3.out.1) ((hb4.block Z hs3).trans HS3.out.2))
      have hs4 := Nat.lt_of_lt_of_le hs3 hb4.size
      clear d0 d1 d2 d3 d4 d5 g0 g1 g2 g3 g4 g5 hE3 hb4 hob HEB hBa
      go_wp2_with fail
      refine (HDA.out _ _ _ hBa4).mono ?_
      rintro e w5 ⟨rfl, hb5⟩
      have hE5 := (hE4.step hb5).alloc (.cells #[.int .i64 I, .int .i64 1, .int .i64 L, .int .i64 S, .int .u64 (T : Int), .bool c] 59)
      have hb5a := hb5.alloc hb5.size (.cells #[.int .i64 I, .int .i64 1, .int .i64 L, .int .i64 S, .int .u64 (T : Int), .bool c] 59)
      have hBa5 := hBa4.below hb5a
      have hBb5 := hBb.below hb5a
      have hX5 := heap_alloc_new w5 (.cells #[.int .i64 I, .int .i64 1, .int .i64 L, .int .i64 S, .int .u64 (T : Int), .bool c] 59)
      have hs5 := size_alloc w5 (.cells #[.int .i64 I, .int .i64 1, .int .i64 L, .int .i64 S, .int .u64 (T : Int), .bool c] 59)
      have HS5 := Lib.hid (And.intro ((hb5a.block H (by omega)).trans HS4.out.1) ((hb5a.block Z hs4).trans HS4.out.2))
      have hs5z := Nat.lt_of_lt_of_le hs4 hb5a.size
      have hs5zz := Nat.lt_of_lt_of_le hs4 hb5.size
      obtain ⟨X, hX⟩ : ∃ X, X = w5.heap.size := ⟨_, rfl⟩
      rw [← hX] at hX5 hs5 hs5zz
      have HX := Lib.hid hX
      have HX5 := Lib.hid hX5
      clear hX hX5 hb5 hb5a hE4 hBa4 hBb HDA
      go_upto_region 17 with fail
      rw [← HX.out]
      generalize w5.alloc (.cells #[.int .i64 I, .int .i64 1, .int .i64 L, .int .i64 S, .int .u64 (T : Int), .bool c] 59) = w6 at *
      go_wp2_with fail
      refine (HDB.out _ _ _ hBb5).mono ?_
      rintro e w7 ⟨rfl, hb7⟩
      have hE7 := (hE5.step hb7).alloc (.cells #[.int .i64 I, .int .i64 1, .int .i64 L, .int .i64 S, .int .u64 (T2 : Int), .bool c] 59)
      have hb7a := hb7.alloc hb7.size (.cells #[.int .i64 I, .int .i64 1, .int .i64 L, .int .i64 S, .int .u64 (T2 : Int), .bool c] 59)
      have hBa7 := hBa5.below hb7a
      have hBb7 := hBb5.below hb7a
      have hY7 := heap_alloc_new w7 (.cells #[.int .i64 I, .int .i64 1, .int .i64 L, .int .i64 S, .int .u64 (T2 : Int), .bool c] 59)
      have HS7 := Lib.hid (And.intro ((hb7a.block H (by omega)).trans HS5.out.1) (And.intro ((hb7a.block Z hs5z).trans HS5.out.2) ((hb7a.block X hs5).trans HX5.out)))
      obtain ⟨Y, hY⟩ : ∃ Y, Y = w7.heap.size := ⟨_, rfl⟩
      rw [← hY] at hY7
      have HY := Lib.hid hY
      have HY7 := Lib.hid hY7
      clear hY hY7 hb7 hb7a hE5 hBa5 hBb5 HDB
      go_upto_region 18 with fail
      rw [← HY.out]
      generalize w7.alloc (.cells #[.int .i64 I, .int .i64 1, .int .i64 L, .int .i64 S, .int .u64 (T2 : Int), .bool c] 59) = w8 at *
      obtain ⟨⟨c0, c1, c2, c3, c4, c5⟩, f0, f1, f2, f3, f4, f5⟩ := six_cells HS7.out.1
      obtain ⟨⟨d0, d1, d2, d3, d4, d5⟩, g0, g1, g2, g3, g4, g5⟩ := six_cells HS7.out.2.1
      obtain ⟨⟨x0, x1, x2, x3, x4, x5⟩, _⟩ := six_cells HS7.out.2.2
      obtain ⟨⟨y0, y1, y2, y3, y4, y5⟩, _⟩ := six_cells HY7.out
      have hsa := run_string hBa7
      have hsb := run_string hBb7
      have hne := HNE.out
      obtain ⟨he1, he2, he3⟩ := HQ.out
      clear hBa7 hBb7
      go_wp2_with fail
      refine (node_known _).mono ?_
      rintro e w9 ⟨rfl, hb9⟩
      go_wp2_with fail
      go_ret
      exact ⟨rfl, (hE7.step hb9).1⟩
    · have hmok : Nd.Ok ⟨I, 1, L, S, T, (!c)⟩ := ⟨by dsimp only; omega, by dsimp only; omega, by dsimp only; omega, by dsimp only; omega, .inl ⟨rfl, by dsimp only; omega, by dsimp only; omega, by dsimp only; omega⟩⟩
      have hab : (⟨I, 1, L, S, T, c⟩ : Nd) ≠ ⟨I, 1, L, S, T, (!c)⟩ := fun h => by have := congrArg Nd.closed h; simp at this
      have hZ2 := cells_set (k := 5) (y := .bool (!c)) HS1.out.2
      have hH2 := cells_far (Z := Z) (k := 5) (y := .bool (!c)) HS1.out.1 (by omega)
      have hE2 := hE1.setCell (p := ⟨Z, 5, none⟩) (by show H ≤ Z; omega) (.bool (!c))
      have hs2 : Z < (w1.setCell ⟨Z, 5, none⟩ (.bool (!c))).heap.size := by simpa [World.setCell] using hs1
      have HS : Hid ((w1.setCell ⟨Z, 5, none⟩ (.bool (!c))).heap[H]? = some (.cells #[.int .i64 I, .int .i64 1, .int .i64 L, .int .i64 S, .int .u64 (T : Int), .bool c] 59 (0, 0)) ∧ (w1.setCell ⟨Z, 5, none⟩ (.bool (!c))).heap[Z]? = some (.cells #[.int .i64 I, .int .i64 1, .int .i64 L, .int .i64 S, .int .u64 ((T : Nat) : Int), .bool (!c)] 59 (0, 0))) := Lib.hid (And.intro hH2 hZ2)
      clear hZ2 hH2
      go_upto_region 14 with fail
      generalize w1.setCell ⟨Z, 5, none⟩ (.bool (!c)) = w2 at *
      clear hE1 hs1
      clear d0 d1 d2 d3 d4 d5 g0 g1 g2 g3 g4 g5
      have HEA := Lib.hid (fun w => nenc_ok ⟨I, 1, L, S, T, c⟩ w HNOK.out)
      have HEB := Lib.hid (fun w => nenc_ok ⟨I, 1, L, S, T, (!c)⟩ w hmok)
      have q1 := ndDec_bytes ⟨I, 1, L, S, T, c⟩ HNOK.out (by show T < 18446744073709551616; omega)
      have q2 := ndDec_bytes ⟨I, 1, L, S, T, (!c)⟩ hmok (by show T < 18446744073709551616; omega)
      have hAB : Nd.bytes ⟨I, 1, L, S, T, c⟩ ≠ Nd.bytes ⟨I, 1, L, S, T, (!c)⟩ := fun h => hab (by rw [h, q2] at q1; exact (Option.some.inj q1).symm)
      have HDA := Lib.hid (fun a cap w (h : Bs w a 16 cap (Nd.bytes ⟨I, 1, L, S, T, c⟩)) => ndec_any a 16 cap _ w h (by unfold big; decide))
      have HDB := Lib.hid (fun a cap w (h : Bs w a 16 cap (Nd.bytes ⟨I, 1, L, S, T, (!c)⟩)) => ndec_any a 16 cap _ w h (by unfold big; decide))
      rw [q1] at HDA
      rw [q2] at HDB
      have he1 := fun w => nd_eql_self ⟨I, 1, L, S, T, c⟩ w
      have he2 := fun w => nd_eql_self ⟨I, 1, L, S, T, (!c)⟩ w
      have he3 := fun w => nd_neq_ne _ _ hab w
      unfold decV at HDA HDB
      unfold Nd.cells at HEA HEB HDA HDB he1 he2 he3
      simp only [Option.getD_some, Option.isSome_some, if_true] at HEA HEB HDA HDB he1 he2 he3
      have HQ := Lib.hid (And.intro he1 (And.intro he2 he3))
      have hLA := Nd.bytes_length ⟨I, 1, L, S, T, c⟩
      have hLB := Nd.bytes_length ⟨I, 1, L, S, T, (!c)⟩
      generalize Nd.bytes ⟨I, 1, L, S, T, c⟩ = A at *
      generalize Nd.bytes ⟨I, 1, L, S, T, (!c)⟩ = B at *
      have hne : ((strOf A).toList == (strOf B).toList) = false := by rw [strOf_toList, strOf_toList, beq_eq_false_iff_ne]; exact hAB
      have HNE := Lib.hid hne
      clear hne hAB q1 q2 he1 he2 he3 hab hmok
      obtain ⟨⟨c0, c1, c2, c3, c4, c5⟩, f0, f1, f2, f3, f4, f5⟩ := six_cells HS.out.1
      go_wp2_with fail
      refine (HEA.out _).mono ?_
      rintro e w3 ⟨va, rfl, hoa, hb3⟩
      obtain ⟨aa, ka, rfl, hBa⟩ := hoa.bsn hLA
      have hE3 := hE2.step hb3
      have HS3 := Lib.hid (And.intro ((hb3.block H (by omega)).trans HS.out.1) ((hb3.block Z hs2).trans HS.out.2))
      have hs3 := Nat.lt_of_lt_of_le hs2 hb3.size
      clear c0 c1 c2 c3 c4 c5 f0 f1 f2 f3 f4 f5 hE2 hb3 hoa HEA
      obtain ⟨⟨d0, d1, d2, d3, d4, d5⟩, g0, g1, g2, g3, g4, g5⟩ := six_cells HS3.out.2
      go_wp2_with fail
      refine (HEB.out _).mono ?_
      rintro e w4 ⟨vb, rfl, hob, hb4⟩
      obtain ⟨ab, kb, rfl, hBb⟩ := hob.bsn hLB
      have hE4 := hE3.step hb4
      have hBa4 := hBa.below hb4
      have HS4 := Lib.hid (And.intro ((hb4.block H (by omega)).trans HS3.out.1) ((hb4.block Z hs3).trans HS3.out.2))
      have hs4 := Nat.lt_of_lt_of_le hs3 hb4.size
      clear d0 d1 d2 d3 d4 d5 g0 g1 g2 g3 g4 g5 hE3 hb4 hob HEB hBa
      go_wp2_with fail
      refine (HDA.out _ _ _ hBa4).mono ?_
      rintro e w5 ⟨rfl, hb5⟩
      have hE5 := (hE4.step hb5).alloc (.cells #[.int .i64 I, .int .i64 1, .int .i64 L, .int .i64 S, .int .u64 (T : Int), .bool c] 59)
      have hb5a := hb5.alloc hb5.size (.cells #[.int .i64 I, .int .i64 1, .int .i64 L, .int .i64 S, .int .u64 (T : Int), .bool c] 59)
      have hBa5 := hBa4.below hb5a
      have hBb5 := hBb.below hb5a
      have hX5 := heap_alloc_new w5 (.cells #[.int .i64 I, .int .i64 1, .int .i64 L, .int .i64 S, .int .u64 (T : Int), .bool c] 59)
      have hs5 := size_alloc w5 (.cells #[.int .i64 I, .int .i64 1, .int .i64 L, .int .i64 S, .int .u64 (T : Int), .bool c] 59)
      have HS5 := Lib.hid (And.intro ((hb5a.block H (by omega)).trans HS4.out.1) ((hb5a.block Z hs4).trans HS4.out.2))
      have hs5z := Nat.lt_of_lt_of_le hs4 hb5a.size
      have hs5zz := Nat.lt_of_lt_of_le hs4 hb5.size
      obtain ⟨X, hX⟩ : ∃ X, X = w5.heap.size := ⟨_, rfl⟩
      rw [← hX] at hX5 hs5 hs5zz
      have HX := Lib.hid hX
      have HX5 := Lib.hid hX5
      clear hX hX5 hb5 hb5a hE4 hBa4 hBb HDA
      go_upto_region 17 with fail
      rw [← HX.out]
      generalize w5.alloc (.cells #[.int .i64 I, .int .i64 1, .int .i64 L, .int .i64 S, .int .u64 (T : Int), .bool c] 59) = w6 at *
      go_wp2_with fail
      refine (HDB.out _ _ _ hBb5).mono ?_
      rintro e w7 ⟨rfl, hb7⟩
      have hE7 := (hE5.step hb7).alloc (.cells #[.int .i64 I, .int .i64 1, .int .i64 L, .int .i64 S, .int .u64 (T : Int), .bool (!c)] 59)
      have hb7a := hb7.alloc hb7.size (.cells #[.int .i64 I, .int .i64 1, .int .i64 L, .int .i64 S, .int .u64 (T : Int), .bool (!c)] 59)
      have hBa7 := hBa5.below hb7a
      have hBb7 := hBb5.below hb7a
      have hY7 := heap_alloc_new w7 (.cells #[.int .i64 I, .int .i64 1, .int .i64 L, .int .i64 S, .int .u64 (T : Int), .bool (!c)] 59)
      have HS7 := Lib.hid (And.intro ((hb7a.block H (by omega)).trans HS5.out.1) (And.intro ((hb7a.block Z hs5z).trans HS5.out.2) ((hb7a.block X hs5).trans HX5.out)))
      obtain ⟨Y, hY⟩ : ∃ Y, Y = w7.heap.size := ⟨_, rfl⟩
      rw [← hY] at hY7
      have HY := Lib.hid hY
      have HY7 := Lib.hid hY7
      clear hY hY7 hb7 hb7a hE5 hBa5 hBb5 HDB
      go_upto_region 18 with fail
      rw [← HY.out]
      generalize w7.alloc (.cells #[.int .i64 I, .int .i64 1, .int .i64 L, .int .i64 S, .int .u64 (T : Int), .bool (!c)] 59) = w8 at *
      obtain ⟨⟨c0, c1, c2, c3, c4, c5⟩, f0, f1, f2, f3, f4, f5⟩ := six_cells HS7.out.1
      obtain ⟨⟨d0, d1, d2, d3, d4, d5⟩, g0, g1, g2, g3, g4, g5⟩ := six_cells HS7.out.2.1
      obtain ⟨⟨x0, x1, x2, x3, x4, x5⟩, _⟩ := six_cells HS7.out.2.2
      obtain ⟨⟨y0, y1, y2, y3, y4, y5⟩, _⟩ := six_cells HY7.out
      have hsa := run_string hBa7
      have hsb := run_string hBb7
      have hne := HNE.out
      obtain ⟨he1, he2, he3⟩ := HQ.out
      clear hBa7 hBb7
      go_wp2_with fail
      refine (node_known _).mono ?_
      rintro e w9 ⟨rfl, hb9⟩
      go_wp2_with fail
      go_ret
      exact ⟨rfl, (hE7.step hb9).1⟩
end Go.Proofs.Ytmedamofmlkccaa
