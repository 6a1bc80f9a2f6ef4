/- The walk of NodeTells. -/
import Derived.Test.YtmedamofmlkccaaLaw10
import Derived.Test.YtmedamofmlkccaaWithin
import Derived.Test.YtmedamofmlkccaaCut
import Derived.Test.YtmedamofmlkccaaArg
import Derived.Test.YtmedamofmlkccaaTools2
import Derived.Deep.DeepCutAuto
namespace Go.Proofs.Ytmedamofmlkccaa
open Go.RowKit

set_option maxHeartbeats 4000000 in
set_option maxRecDepth 100000 in
theorem NodeTells_walk (v0 : Value) (v1 : Value) (v2 : Value) (v3 : Value) (w : World) (h0 : Arg Try.prog w 59 v0) (h1 : Arg Try.prog w 26 v1) (h2 : Arg Try.prog w 3 v2) (h3 : Arg Try.prog w 5 v3) :
    Calls Try.prog 9 #[v0, v1, v2, v3] w fun e w' => e = .returned (.bool true) ∧ Below w.heap.size w w' := by
  obtain ⟨⟨i, k, l, s, t, c⟩, rfl, htb⟩ := h0.node
  obtain ⟨ab, lb, cb, bs, rfl, hBb⟩ := h1.bytes Try.underlying26 Try.underlying5 (by kernel_rfl)
  obtain ⟨at_, rfl, _⟩ := h2.int Try.underlying3
  obtain ⟨z, rfl, hz⟩ := h3.int Try.underlying5
  obtain ⟨tn, rfl⟩ : ∃ t : UInt8, (t.toNat : Int) = z := ⟨byteOf z, byteOf_toNat hz⟩
  clear h0 h1 h2 h3 hz
  unfold Nd.cells
  simp only at htb ⊢
  obtain ⟨H, hH⟩ : ∃ H, H = w.heap.size := ⟨_, rfl⟩
  have HH := Lib.hid hH
  have hH0 := heap_alloc_new w (.cells #[.int .i64 i, .int .i64 k, .int .i64 l, .int .i64 s, .int .u64 (t : Int), .bool c] 59)
  have hE0 := (Ext.refl w).alloc (.cells #[.int .i64 i, .int .i64 k, .int .i64 l, .int .i64 s, .int .u64 (t : Int), .bool c] 59)
  have hs0 := size_alloc w (.cells #[.int .i64 i, .int .i64 k, .int .i64 l, .int .i64 s, .int .u64 (t : Int), .bool c] 59)
  rw [← hH] at hH0 hE0 hs0 ⊢
  have hlbc := hBb.2.1
  have HBB := Lib.hid (show ∀ W, Below H w W → Bs W ab lb cb bs from fun W hb => hBb.below (by rw [← hH]; exact hb))
  have HSM := Lib.hid (fun w => law10_same ⟨i, k, l, s, t, c⟩ w)
  unfold Nd.cells at HSM
  simp only at HSM
  clear hBb hH
  go_enter Try.func9, Try.ntmps9
  go_upto_region 1 with fail
  rw [← HH.out]
  generalize w.alloc (.cells #[.int .i64 i, .int .i64 k, .int .i64 l, .int .i64 s, .int .u64 (t : Int), .bool c] 59) = w0 at *
  have HH0 := Lib.hid hH0
  obtain ⟨⟨c0, c1, c2, c3, c4, c5⟩, f0, f1, f2, f3, f4, f5⟩ := six_cells hH0
  have hH1 := ((Below.refl _ _).alloc (Nat.le_refl _) (.cells #[.int .i64 i, .int .i64 k, .int .i64 l, .int .i64 s, .int .u64 (t : Int), .bool c] 59)).block H hs0 |>.trans HH0.out
  have hZ1 := heap_alloc_new w0 (.cells #[.int .i64 i, .int .i64 k, .int .i64 l, .int .i64 s, .int .u64 (t : Int), .bool c] 59)
  have hE1 := hE0.alloc (.cells #[.int .i64 i, .int .i64 k, .int .i64 l, .int .i64 s, .int .u64 (t : Int), .bool c] 59)
  have hs1 := size_alloc w0 (.cells #[.int .i64 i, .int .i64 k, .int .i64 l, .int .i64 s, .int .u64 (t : Int), .bool c] 59)
  obtain ⟨Z, hZ⟩ : ∃ Z, Z = w0.heap.size := ⟨_, rfl⟩
  rw [← hZ] at hZ1 hs1 hs0
  have HZ := Lib.hid hZ
  have HS1 := Lib.hid (And.intro hH1 hZ1)
  clear hH0 hH1 hZ1 hZ hE0
  go_upto_region 2 with fail
  rw [← HZ.out]
  generalize w0.alloc (.cells #[.int .i64 i, .int .i64 k, .int .i64 l, .int .i64 s, .int .u64 (t : Int), .bool c] 59) = w1 at *
  clear c0 c1 c2 c3 c4 c5 f0 f1 f2 f3 f4 f5
  obtain ⟨⟨c0, c1, c2, c3, c4, c5⟩, f0, f1, f2, f3, f4, f5⟩ := six_cells HS1.out.1
  obtain ⟨⟨d0, d1, d2, d3, d4, d5⟩, g0, g1, g2, g3, g4, g5⟩ := six_cells HS1.out.2
  go_wp2_with fail
  refine (within_any k 0 1 _ (by omega) (by omega) (by omega)).mono ?_
  rintro e wq ⟨rfl, rfl⟩
  have hbK := within_bd k 0 1 (by omega)
  generalize within k 0 1 = K0 at *
  obtain ⟨K, hK⟩ : ∃ K, K = 1 + K0 := ⟨_, rfl⟩
  have hKw : IntKind.i64.wrap (1 + K0) = K := by rw [IntWalk.i64_in _ (by omega)]; exact hK.symm
  have hK12 : K = 1 ∨ K = 2 := by omega
  clear hK
  have hZ2 := cells_set (k := 1) (y := .int .i64 K) HS1.out.2
  have hH2 := cells_far (Z := Z) (k := 1) (y := .int .i64 K) HS1.out.1 (by omega)
  have hE2 := hE1.setCell (p := ⟨Z, 1, none⟩) (by show H ≤ Z; omega) (.int .i64 K)
  have hs2 : Z < (w1.setCell ⟨Z, 1, none⟩ (.int .i64 K)).heap.size := by simpa [World.setCell] using hs1
  have HS2 : Hid (_ ∧ (w1.setCell ⟨Z, 1, none⟩ (.int .i64 K)).heap[Z]? = some (.cells #[.int .i64 i, .int .i64 K, .int .i64 l, .int .i64 s, .int .u64 (t : Int), .bool c] 59 (0, 0))) := Lib.hid (And.intro hH2 hZ2)
  clear hH2 hZ2 hE1
  go_upto_region 3 with fail
  generalize w1.setCell ⟨Z, 1, none⟩ (.int .i64 K) = w2 at *
  clear c0 c1 c2 c3 c4 c5 f0 f1 f2 f3 f4 f5 d0 d1 d2 d3 d4 d5 g0 g1 g2 g3 g4 g5
  obtain ⟨⟨c0, c1, c2, c3, c4, c5⟩, f0, f1, f2, f3, f4, f5⟩ := six_cells HS2.out.1
  obtain ⟨⟨d0, d1, d2, d3, d4, d5⟩, g0, g1, g2, g3, g4, g5⟩ := six_cells HS2.out.2
  go_wp2_with fail
  refine (within_any i 0 65535 _ (by omega) (by omega) (by omega)).mono ?_
  rintro e wq ⟨rfl, rfl⟩
  have hbI := within_bd i 0 65535 (by omega)
  generalize within i 0 65535 = I0 at *
  have hZ3 := cells_set (k := 0) (y := .int .i64 I0) HS2.out.2
  have hH3 := cells_far (Z := Z) (k := 0) (y := .int .i64 I0) HS2.out.1 (by omega)
  have hE3 := hE2.setCell (p := ⟨Z, 0, none⟩) (by show H ≤ Z; omega) (.int .i64 I0)
  have hs3 : Z < (w2.setCell ⟨Z, 0, none⟩ (.int .i64 I0)).heap.size := by simpa [World.setCell] using hs2
  have HS3 : Hid (_ ∧ (w2.setCell ⟨Z, 0, none⟩ (.int .i64 I0)).heap[Z]? = some (.cells #[.int .i64 I0, .int .i64 K, .int .i64 l, .int .i64 s, .int .u64 (t : Int), .bool c] 59 (0, 0))) := Lib.hid (And.intro hH3 hZ3)
  clear hH3 hZ3 hE2
  go_upto_region 4 with fail
  generalize w2.setCell ⟨Z, 0, none⟩ (.int .i64 I0) = w3 at *
  clear c0 c1 c2 c3 c4 c5 f0 f1 f2 f3 f4 f5 d0 d1 d2 d3 d4 d5 g0 g1 g2 g3 g4 g5
  obtain ⟨⟨c0, c1, c2, c3, c4, c5⟩, f0, f1, f2, f3, f4, f5⟩ := six_cells HS3.out.1
  obtain ⟨⟨d0, d1, d2, d3, d4, d5⟩, g0, g1, g2, g3, g4, g5⟩ := six_cells HS3.out.2
  go_wp2_with fail
  refine (within_any l 0 65535 _ (by omega) (by omega) (by omega)).mono ?_
  rintro e wq ⟨rfl, rfl⟩
  have hbLk := within_bd l 0 65535 (by omega)
  generalize within l 0 65535 = Lk0 at *
  have hZ4 := cells_set (k := 2) (y := .int .i64 Lk0) HS3.out.2
  have hH4 := cells_far (Z := Z) (k := 2) (y := .int .i64 Lk0) HS3.out.1 (by omega)
  have hE4 := hE3.setCell (p := ⟨Z, 2, none⟩) (by show H ≤ Z; omega) (.int .i64 Lk0)
  have hs4 : Z < (w3.setCell ⟨Z, 2, none⟩ (.int .i64 Lk0)).heap.size := by simpa [World.setCell] using hs3
  have HS4 : Hid (_ ∧ (w3.setCell ⟨Z, 2, none⟩ (.int .i64 Lk0)).heap[Z]? = some (.cells #[.int .i64 I0, .int .i64 K, .int .i64 Lk0, .int .i64 s, .int .u64 (t : Int), .bool c] 59 (0, 0))) := Lib.hid (And.intro hH4 hZ4)
  clear hH4 hZ4 hE3
  go_upto_region 5 with fail
  generalize w3.setCell ⟨Z, 2, none⟩ (.int .i64 Lk0) = w4 at *
  clear c0 c1 c2 c3 c4 c5 f0 f1 f2 f3 f4 f5 d0 d1 d2 d3 d4 d5 g0 g1 g2 g3 g4 g5
  obtain ⟨⟨c0, c1, c2, c3, c4, c5⟩, f0, f1, f2, f3, f4, f5⟩ := six_cells HS4.out.1
  obtain ⟨⟨d0, d1, d2, d3, d4, d5⟩, g0, g1, g2, g3, g4, g5⟩ := six_cells HS4.out.2
  go_wp2_with fail
  refine (within_any s 0 4096 _ (by omega) (by omega) (by omega)).mono ?_
  rintro e wq ⟨rfl, rfl⟩
  have hbSz := within_bd s 0 4096 (by omega)
  generalize within s 0 4096 = Sz0 at *
  have hZ5 := cells_set (k := 3) (y := .int .i64 Sz0) HS4.out.2
  have hH5 := cells_far (Z := Z) (k := 3) (y := .int .i64 Sz0) HS4.out.1 (by omega)
  have hE5 := hE4.setCell (p := ⟨Z, 3, none⟩) (by show H ≤ Z; omega) (.int .i64 Sz0)
  have hs5 : Z < (w4.setCell ⟨Z, 3, none⟩ (.int .i64 Sz0)).heap.size := by simpa [World.setCell] using hs4
  have HS5 : Hid (_ ∧ (w4.setCell ⟨Z, 3, none⟩ (.int .i64 Sz0)).heap[Z]? = some (.cells #[.int .i64 I0, .int .i64 K, .int .i64 Lk0, .int .i64 Sz0, .int .u64 (t : Int), .bool c] 59 (0, 0))) := Lib.hid (And.intro hH5 hZ5)
  clear hH5 hZ5 hE4
  go_upto_region 6 with fail
  generalize w4.setCell ⟨Z, 3, none⟩ (.int .i64 Sz0) = w5 at *
  clear c0 c1 c2 c3 c4 c5 f0 f1 f2 f3 f4 f5 d0 d1 d2 d3 d4 d5 g0 g1 g2 g3 g4 g5
  obtain ⟨⟨c0, c1, c2, c3, c4, c5⟩, f0, f1, f2, f3, f4, f5⟩ := six_cells HS5.out.1
  obtain ⟨⟨d0, d1, d2, d3, d4, d5⟩, g0, g1, g2, g3, g4, g5⟩ := six_cells HS5.out.2
  have hqm : (t : Int).tmod 1099511627777 = ((t % 1099511627777 : Nat) : Int) := by rw [Int.tmod_eq_emod_of_nonneg (by omega)]; omega
  generalize t % 1099511627777 = T at *
  have hZ6 := cells_set (k := 4) (y := .int .u64 (T : Int)) HS5.out.2
  have hH6 := cells_far (Z := Z) (k := 4) (y := .int .u64 (T : Int)) HS5.out.1 (by omega)
  have hE6 := hE5.setCell (p := ⟨Z, 4, none⟩) (by show H ≤ Z; omega) (.int .u64 (T : Int))
  have hs6 : Z < (w5.setCell ⟨Z, 4, none⟩ (.int .u64 (T : Int))).heap.size := by simpa [World.setCell] using hs5
  have HS6 : Hid (_ ∧ (w5.setCell ⟨Z, 4, none⟩ (.int .u64 (T : Int))).heap[Z]? = some (.cells #[.int .i64 I0, .int .i64 K, .int .i64 Lk0, .int .i64 Sz0, .int .u64 (T : Int), .bool c] 59 (0, 0))) := Lib.hid (And.intro hH6 hZ6)
  clear hH6 hZ6 hE5
  go_upto_region 7 with fail
  generalize w5.setCell ⟨Z, 4, none⟩ (.int .u64 (T : Int)) = w6 at *
  clear c0 c1 c2 c3 c4 c5 f0 f1 f2 f3 f4 f5 d0 d1 d2 d3 d4 d5 g0 g1 g2 g3 g4 g5
  have HSX := HS6
  rcases hK12 with rfl | rfl
  · obtain ⟨⟨d0, d1, d2, d3, d4, d5⟩, g0, g1, g2, g3, g4, g5⟩ := six_cells HS6.out.2
    go_upto_region 9 with fail
    clear d0 d1 d2 d3 d4 d5 g0 g1 g2 g3 g4 g5
    obtain ⟨⟨d0, d1, d2, d3, d4, d5⟩, g0, g1, g2, g3, g4, g5⟩ := six_cells HS6.out.2
    have HEN := Lib.hid (fun w => rnenc_any ⟨I0, 1, Lk0, Sz0, T, c⟩ w)
    have HSX2 := Lib.hid (fun w => law10_same ⟨I0, 1, Lk0, Sz0, T, c⟩ w)
    have hL := Nd.rbytes_len ⟨I0, 1, Lk0, Sz0, T, c⟩
    unfold Nd.cells at HEN HSX2
    simp only at HEN HSX2
    generalize Nd.rbytes ⟨I0, 1, Lk0, Sz0, T, c⟩ = L at *
    go_wp2_with fail
    refine (HEN.out _).mono ?_
    rintro e w11 ⟨v11, rfl, ho11, hb11⟩
    have hH11 := (hb11.block H (by omega)).trans HS6.out.1
    have hZ11 := (hb11.block Z hs6).trans HS6.out.2
    have hE11 := hE6.step hb11
    have hs11 := Nat.lt_of_lt_of_le hs6 hb11.size
    obtain ⟨g, cg, rfl, hgz, hRow⟩ : ∃ g cg, v11 = .slice (some ⟨g, 0, none⟩) 16 cg ∧ w6.heap.size ≤ g ∧ Row w11 g cg L := by
      rcases ho11.parts with ⟨_, h2⟩ | ⟨g, c, h1, h2, h3⟩
      · rw [h2] at hL; cases hL
      · exact ⟨g, c, by rw [h1, hL], h2, h3⟩
    have hgH : H ≤ g := by omega
    clear ho11 HEN hgz hb11 hE6 d0 d1 d2 d3 d4 d5 g0 g1 g2 g3 g4 g5
    obtain ⟨⟨c0, c1, c2, c3, c4, c5⟩, f0, f1, f2, f3, f4, f5⟩ := six_cells hH11
    have HZ11 := Lib.hid hZ11
    clear hZ11 hH11
    go_wp2_with fail
    refine (HSM.out _).mono ?_
    rintro e w12 ⟨rfl, hb12⟩
    have hZ12 := (hb12.block Z hs11).trans HZ11.out
    have hE12 := hE11.step hb12
    have hR12 := hRow.below hb12
    clear c0 c1 c2 c3 c4 c5 f0 f1 f2 f3 f4 f5 hE11 hRow hs11 hb12
    obtain ⟨⟨d0, d1, d2, d3, d4, d5⟩, g0, g1, g2, g3, g4, g5⟩ := six_cells hZ12
    clear hZ12
    go_wp2_with fail
    refine (HSX2.out _).mono ?_
    rintro e w13 ⟨rfl, hb13⟩
    have hE13 := hE12.step hb13
    have hR13 := hR12.below hb13
    clear d0 d1 d2 d3 d4 d5 g0 g1 g2 g3 g4 g5 hE12 hR12 hb13
    have hB13 := hR13.bs
    rw [hL] at hB13
    go_wp2_with fail
    refine (law10_read _ 16 cg L _ hB13 (by unfold big; omega)).mono ?_
    rintro e w14 ⟨rfl, hb14⟩
    have hE14 := hE13.step hb14
    have hR14 := hR13.below hb14
    clear hE13 hR13 hB13 hb14
    have hm30 : min lb 30 ≤ 30 := Nat.min_le_right _ _
    have HC30 := Lib.hid (fun W => cut_any 30 ab lb cb W hlbc (by omega))
    have hBc := (HBB.out _ hE14.1).take (k := min lb 30) (Nat.min_le_left _ _)
    generalize min lb 30 = n1 at *
    go_wp2_with fail
    refine (HC30.out _).mono ?_
    rintro e w15 ⟨rfl, rfl⟩
    go_wp2_with fail
    refine (law10_read ab n1 cb _ _ hBc (by unfold big; omega)).mono ?_
    rintro e w15 ⟨rfl, hb15⟩
    have hE15 := hE14.step hb15
    have hR15 := hR14.below hb15
    clear hE14 hR14 hb15 hBc
    go_wp2_with fail
    refine (within_any at_ 0 15 _ (by omega) (by omega) (by omega)).mono ?_
    rintro e w16 ⟨rfl, rfl⟩
    have hi := within_bd at_ 0 15 (by omega)
    generalize within at_ 0 15 = ii at *
    obtain ⟨j, rfl⟩ : ∃ j : Nat, ii = (j : Int) := ⟨ii.toNat, by omega⟩
    have hiL : j < L.length := by omega
    have hj16 : (j : Int) < 16 := by omega
    have hj0 : (0 : Int) ≤ (j : Int) := by omega
    have hc := hR15.cell j hiL
    have hfz := hR15.frozen j
    have hxo := u8_xor_nat (L[j]).toNat tn.toNat (UInt8.toNat_lt _) (UInt8.toNat_lt _)
    have hR16 := hR15.set j (L[j] ^^^ tn)
    rw [UInt8.toNat_xor] at hR16
    have hE16 := hE15.setCell (p := ⟨g, j, none⟩) hgH (.int .u8 (((L[j]).toNat ^^^ tn.toNat : Nat) : Int))
    have hB16 := hR16.bs
    rw [List.length_set, hL] at hB16
    go_upto_region 13 with fail
    generalize w15.setCell ⟨g, j, none⟩ (.int .u8 (((L[j]).toNat ^^^ tn.toNat : Nat) : Int)) = w16 at *
    clear hc hfz hxo hR15 hE15 hR16
    go_wp2_with fail
    refine (law10_read _ 16 cg _ _ hB16 (by unfold big; omega)).mono ?_
    rintro e w17 ⟨rfl, hb17⟩
    have hE17 := hE16.step hb17
    go_wp2_with fail
    refine (node_known _).mono ?_
    rintro e w18 ⟨rfl, hb18⟩
    go_wp2_with fail
    go_ret
    exact ⟨rfl, (hE17.step hb18).1⟩
  · obtain ⟨⟨d0, d1, d2, d3, d4, d5⟩, g0, g1, g2, g3, g4, g5⟩ := six_cells HS6.out.2
    have hZ7 := cells_set (k := 5) (y := .bool true) (cells_set (k := 4) (y := .int .u64 0) (cells_set (k := 3) (y := .int .i64 0) HS6.out.2))
    have hH7 := cells_far (Z := Z) (k := 5) (y := .bool true) (cells_far (Z := Z) (k := 4) (y := .int .u64 0) (cells_far (Z := Z) (k := 3) (y := .int .i64 0) HS6.out.1 (by omega)) (by omega)) (by omega)
    have hE7 := ((hE6.setCell (p := ⟨Z, 3, none⟩) (by show H ≤ Z; omega) (.int .i64 0)).setCell (p := ⟨Z, 4, none⟩) (by show H ≤ Z; omega) (.int .u64 0)).setCell (p := ⟨Z, 5, none⟩) (by show H ≤ Z; omega) (.bool true)
    have hs7 : Z < (((w6.setCell ⟨Z, 3, none⟩ (.int .i64 0)).setCell ⟨Z, 4, none⟩ (.int .u64 0)).setCell ⟨Z, 5, none⟩ (.bool true)).heap.size := by simpa [World.setCell] using hs6
    have HS7 : Hid (_ ∧ (((w6.setCell ⟨Z, 3, none⟩ (.int .i64 0)).setCell ⟨Z, 4, none⟩ (.int .u64 0)).setCell ⟨Z, 5, none⟩ (.bool true)).heap[Z]? = some (.cells #[.int .i64 I0, .int .i64 2, .int .i64 Lk0, .int .i64 0, .int .u64 ((0 : Nat) : Int), .bool true] 59 (0, 0))) := Lib.hid (And.intro hH7 hZ7)
    clear hH7 hZ7 hE6
    go_upto_region 9 with fail
    generalize ((w6.setCell ⟨Z, 3, none⟩ (.int .i64 0)).setCell ⟨Z, 4, none⟩ (.int .u64 0)).setCell ⟨Z, 5, none⟩ (.bool true) = w7 at *
    clear d0 d1 d2 d3 d4 d5 g0 g1 g2 g3 g4 g5
    obtain ⟨⟨d0, d1, d2, d3, d4, d5⟩, g0, g1, g2, g3, g4, g5⟩ := six_cells HS7.out.2
    have HEN := Lib.hid (fun w => rnenc_any ⟨I0, 2, Lk0, 0, 0, true⟩ w)
    have HSX2 := Lib.hid (fun w => law10_same ⟨I0, 2, Lk0, 0, 0, true⟩ w)
    have hL := Nd.rbytes_len ⟨I0, 2, Lk0, 0, 0, true⟩
    unfold Nd.cells at HEN HSX2
    simp only at HEN HSX2
    generalize Nd.rbytes ⟨I0, 2, Lk0, 0, 0, true⟩ = L at *
    go_wp2_with fail
    refine (HEN.out _).mono ?_
    rintro e w11 ⟨v11, rfl, ho11, hb11⟩
    have hH11 := (hb11.block H (by omega)).trans HS7.out.1
    have hZ11 := (hb11.block Z hs7).trans HS7.out.2
    have hE11 := hE7.step hb11
    have hs11 := Nat.lt_of_lt_of_le hs7 hb11.size
    obtain ⟨g, cg, rfl, hgz, hRow⟩ : ∃ g cg, v11 = .slice (some ⟨g, 0, none⟩) 16 cg ∧ w7.heap.size ≤ g ∧ Row w11 g cg L := by
      rcases ho11.parts with ⟨_, h2⟩ | ⟨g, c, h1, h2, h3⟩
      · rw [h2] at hL; cases hL
      · exact ⟨g, c, by rw [h1, hL], h2, h3⟩
    have hgH : H ≤ g := by omega
    clear ho11 HEN hgz hb11 hE7 d0 d1 d2 d3 d4 d5 g0 g1 g2 g3 g4 g5
    obtain ⟨⟨c0, c1, c2, c3, c4, c5⟩, f0, f1, f2, f3, f4, f5⟩ := six_cells hH11
    have HZ11 := Lib.hid hZ11
    clear hZ11 hH11
    go_wp2_with fail
    refine (HSM.out _).mono ?_
    rintro e w12 ⟨rfl, hb12⟩
    have hZ12 := (hb12.block Z hs11).trans HZ11.out
    have hE12 := hE11.step hb12
    have hR12 := hRow.below hb12
    clear c0 c1 c2 c3 c4 c5 f0 f1 f2 f3 f4 f5 hE11 hRow hs11 hb12
    obtain ⟨⟨d0, d1, d2, d3, d4, d5⟩, g0, g1, g2, g3, g4, g5⟩ := six_cells hZ12
    clear hZ12
    go_wp2_with fail
    refine (HSX2.out _).mono ?_
    rintro e w13 ⟨rfl, hb13⟩
    have hE13 := hE12.step hb13
    have hR13 := hR12.below hb13
    clear d0 d1 d2 d3 d4 d5 g0 g1 g2 g3 g4 g5 hE12 hR12 hb13
    have hB13 := hR13.bs
    rw [hL] at hB13
    go_wp2_with fail
    refine (law10_read _ 16 cg L _ hB13 (by unfold big; omega)).mono ?_
    rintro e w14 ⟨rfl, hb14⟩
    have hE14 := hE13.step hb14
    have hR14 := hR13.below hb14
    clear hE13 hR13 hB13 hb14
    have hm30 : min lb 30 ≤ 30 := Nat.min_le_right _ _
    have HC30 := Lib.hid (fun W => cut_any 30 ab lb cb W hlbc (by omega))
    have hBc := (HBB.out _ hE14.1).take (k := min lb 30) (Nat.min_le_left _ _)
    generalize min lb 30 = n1 at *
    go_wp2_with fail
    refine (HC30.out _).mono ?_
    rintro e w15 ⟨rfl, rfl⟩
    go_wp2_with fail
    refine (law10_read ab n1 cb _ _ hBc (by unfold big; omega)).mono ?_
    rintro e w15 ⟨rfl, hb15⟩
    have hE15 := hE14.step hb15
    have hR15 := hR14.below hb15
    clear hE14 hR14 hb15 hBc
    go_wp2_with fail
    refine (within_any at_ 0 15 _ (by omega) (by omega) (by omega)).mono ?_
    rintro e w16 ⟨rfl, rfl⟩
    have hi := within_bd at_ 0 15 (by omega)
    generalize within at_ 0 15 = ii at *
    obtain ⟨j, rfl⟩ : ∃ j : Nat, ii = (j : Int) := ⟨ii.toNat, by omega⟩
    have hiL : j < L.length := by omega
    have hj16 : (j : Int) < 16 := by omega
    have hj0 : (0 : Int) ≤ (j : Int) := by omega
    have hc := hR15.cell j hiL
    have hfz := hR15.frozen j
    have hxo := u8_xor_nat (L[j]).toNat tn.toNat (UInt8.toNat_lt _) (UInt8.toNat_lt _)
    have hR16 := hR15.set j (L[j] ^^^ tn)
    rw [UInt8.toNat_xor] at hR16
    have hE16 := hE15.setCell (p := ⟨g, j, none⟩) hgH (.int .u8 (((L[j]).toNat ^^^ tn.toNat : Nat) : Int))
    have hB16 := hR16.bs
    rw [List.length_set, hL] at hB16
    go_upto_region 13 with fail
    generalize w15.setCell ⟨g, j, none⟩ (.int .u8 (((L[j]).toNat ^^^ tn.toNat : Nat) : Int)) = w16 at *
    clear hc hfz hxo hR15 hE15 hR16
    go_wp2_with fail
    refine (law10_read _ 16 cg _ _ hB16 (by unfold big; omega)).mono ?_
    rintro e w17 ⟨rfl, hb17⟩
    have hE17 := hE16.step hb17
    go_wp2_with fail
    refine (node_known _).mono ?_
    rintro e w18 ⟨rfl, hb18⟩
    go_wp2_with fail
    go_ret
    exact ⟨rfl, (hE17.step hb18).1⟩
end Go.Proofs.Ytmedamofmlkccaa
