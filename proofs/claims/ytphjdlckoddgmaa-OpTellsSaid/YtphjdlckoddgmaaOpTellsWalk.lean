/- The walk of OpTells. -/
import Derived.Test.YtphjdlckoddgmaaOpTame2
import Derived.Test.YtphjdlckoddgmaaOpArg
import Derived.Test.YtphjdlckoddgmaaTools
import Derived.Deep.DeepCutAuto
namespace Go.Proofs.Ytphjdlckoddgmaa
open Go.RowKit

set_option maxHeartbeats 8000000 in
set_option maxRecDepth 100000 in
theorem OpTells_walk (v0 : Value) (v1 : Value) (v2 : Value) (v3 : Value) (w : World) (h0 : Arg Try.prog w 25 v0) (h1 : Arg Try.prog w 23 v1) (h2 : Arg Try.prog w 3 v2) (h3 : Arg Try.prog w 5 v3) :
    Calls Try.prog 3 #[v0, v1, v2, v3] w fun e w' => e = .returned (.bool true) ∧ Below w.heap.size w w' := by
  obtain ⟨k, ps, ts, fd, at_, n, til, sn, da, dl, dc, ds, rfl, htil, hB⟩ := h0.op
  obtain ⟨ab, lb, cb, bs, rfl, hBb⟩ := h1.bytes Try.underlying23 Try.underlying5 (by kernel_rfl)
  obtain ⟨iat, rfl, _⟩ := h2.int Try.underlying3
  obtain ⟨z, rfl, hz⟩ := h3.int Try.underlying5
  obtain ⟨t, rfl⟩ : ∃ t : UInt8, (t.toNat : Int) = z := ⟨byteOf z, byteOf_toNat hz⟩
  clear h0 h1 h2 h3 hz htil
  obtain ⟨H, hH⟩ : ∃ H, H = w.heap.size := ⟨_, rfl⟩
  have HH := Lib.hid hH
  have hlc := hB.2.1
  have hlbc := hBb.2.1
  have hD : ∀ W, Below H w W → Bs W da dl dc ds := fun W hb => hB.below (by rw [← hH]; exact hb)
  have hDb : ∀ W, Below H w W → Bs W ab lb cb bs := fun W hb => hBb.below (by rw [← hH]; exact hb)
  have HB := Lib.hid (And.intro hD hDb)
  have hO := OvAt.of (heap_alloc_new w (.cells (ovCells k (strOf ps) (strOf ts) fd at_ n til sn da dl dc) 25))
  have hlt := size_alloc w (.cells (ovCells k (strOf ps) (strOf ts) fd at_ n til sn da dl dc) 25)
  have hE0 := (Ext.refl w).alloc (.cells (ovCells k (strOf ps) (strOf ts) fd at_ n til sn da dl dc) 25)
  rw [← hH] at hO hlt hE0
  have HS := Lib.hid (fun w => short_any k ps ts fd at_ n til sn da dl dc hlc w)
  have HT := Lib.hid (fun w => tame_any k (strOf ps) (strOf ts) fd at_ n til sn da dl dc hlc w)
  have hm610 : min dl 610 ≤ dl := Nat.min_le_left _ _
  have hm40 : min dl 40 ≤ dl := Nat.min_le_left _ _
  unfold tameCells at HT
  generalize ps.take 210 = ps' at *
  generalize ts.take 210 = ts' at *
  generalize min dl 610 = m6 at *
  generalize min dl 40 = m4 at *
  generalize within fd 0 3 = fd' at *
  generalize within at_ 0 50 = at' at *
  generalize within n 0 60 = n' at *
  generalize til % 12 = til' at *
  unfold ovCells at *
  clear hD hDb hB hBb
  go_enter Try.func3, Try.ntmps3
  go_upto_region 1 with fail
  rw [← hH]
  clear hH
  generalize w.alloc _ = w0 at *
  have HO := Lib.hid hO
  obtain ⟨c0, c1, c2, c3, c4, c5, c6, c7, c8⟩ := hO
  go_wp2_with fail
  refine (HS.out _).mono ?_
  rintro e w1 ⟨rfl, hb1⟩
  have hE1 := hE0.step hb1
  have hO1 := HO.out.below hb1 hlt
  have hlt1 := Nat.lt_of_lt_of_le hlt hb1.size
  clear c0 c1 c2 c3 c4 c5 c6 c7 c8 HO HS hE0 hlt hb1
  have hX := OvAt.of (heap_alloc_new w1 (.cells (ovCells k (strOf ps') (strOf ts') fd at_ n til sn da m6 dc) 25))
  have hE2 := hE1.alloc (.cells (ovCells k (strOf ps') (strOf ts') fd at_ n til sn da m6 dc) 25)
  have hO2 := hO1.below (Below.alloc (Below.refl _ _) (Nat.le_refl _) (.cells (ovCells k (strOf ps') (strOf ts') fd at_ n til sn da m6 dc) 25)) hlt1
  have hlX := size_alloc w1 (.cells (ovCells k (strOf ps') (strOf ts') fd at_ n til sn da m6 dc) 25)
  unfold ovCells at hX hE2 hO2 hlX
  clear hE1 hO1
  go_upto_region 2 with fail
  generalize w1.alloc _ = w2 at *
  generalize w1.heap.size = X at *
  have hlH := Nat.lt_trans hlt1 hlX
  have HO := Lib.hid hO2
  have HX := Lib.hid hX
  obtain ⟨c0, c1, c2, c3, c4, c5, c6, c7, c8⟩ := hO2
  clear hX
  go_wp2_with fail
  refine (HT.out _).mono ?_
  rintro e w3 ⟨⟨p1, p2, sn', rfl, hp1, hp2, hs1, hs2⟩, hb3⟩
  have hE3 := hE2.step hb3
  have hO3 := HO.out.below hb3 hlH
  have hX3 := HX.out.below hb3 hlX
  have hlH3 := Nat.lt_of_lt_of_le hlH hb3.size
  have hlX3 := Nat.lt_of_lt_of_le hlX hb3.size
  clear c0 c1 c2 c3 c4 c5 c6 c7 c8 HO HX HT hE2 hlH hlX hb3
  have hY := heap_alloc_new w3 (.cells (ovCells k (strOf p1) (strOf p2) fd' at' n' til' sn' da m4 dc) 25)
  have hE4 := hE3.alloc (.cells (ovCells k (strOf p1) (strOf p2) fd' at' n' til' sn' da m4 dc) 25)
  have hO4 := hO3.below (Below.alloc (Below.refl _ _) (Nat.le_refl _) (.cells (ovCells k (strOf p1) (strOf p2) fd' at' n' til' sn' da m4 dc) 25)) hlH3
  have hX4 := hX3.below (Below.alloc (Below.refl _ _) (Nat.le_refl _) (.cells (ovCells k (strOf p1) (strOf p2) fd' at' n' til' sn' da m4 dc) 25)) hlX3
  have hlY := size_alloc w3 (.cells (ovCells k (strOf p1) (strOf p2) fd' at' n' til' sn' da m4 dc) 25)
  unfold ovCells at hY hE4 hO4 hX4 hlY
  clear hE3 hO3 hX3
  go_upto_region 3 with fail
  generalize w3.alloc _ = w4 at *
  generalize w3.heap.size = Y at *
  have HY := Lib.hid hY
  have HX := Lib.hid hX4
  have c0 := hO4.c0
  have f0 := frozen_at hY 0
  have e0 := cells_at hY 0
  simp only [List.getElem?_toArray, List.getElem?_cons_zero] at e0
  clear hO4 hX4 hY
  go_wp2_with fail
  refine (within_any k 0 16 _ (by decide) (by decide) (by decide)).mono ?_
  rintro e w5 ⟨rfl, rfl⟩
  have hk := within_bd k 0 16 (by decide)
  generalize within k 0 16 = kk at *
  obtain ⟨hk1, hk2⟩ := hk
  go_upto_region 4 with fail
  have hY5 := cells_set (k := 0) (y := .int .i64 (1 + kk)) HY.out
  have hX5 : OvAt (w4.setCell ⟨Y, 0, none⟩ (.int .i64 (1 + kk))) X k (strOf ps') (strOf ts') fd at_ n til sn da m6 dc :=
    HX.out.below ((Below.refl Y w4).setCell (p := ⟨Y, 0, none⟩) (Nat.le_refl _) _) hlX3
  have hE5 := hE4.setCell (p := ⟨Y, 0, none⟩) (by show H ≤ Y; omega) (.int .i64 (1 + kk))
  have hlX5 : X < (w4.setCell ⟨Y, 0, none⟩ (.int .i64 (1 + kk))).heap.size := Nat.lt_trans hlX3 (lt_of_heap hY5)
  have hlY5 := lt_of_heap hY5
  have hY6 : OvAt (w4.setCell ⟨Y, 0, none⟩ (.int .i64 (1 + kk))) Y (1 + kk) (strOf p1) (strOf p2) fd' at' n' til' sn' da m4 dc := OvAt.of hY5
  clear c0 f0 e0 HY HX hY5 hE4 hlY
  generalize w4.setCell ⟨Y, 0, none⟩ (.int .i64 (1 + kk)) = w5 at *
  have hkw : ∃ ky, ky = 1 + kk := ⟨_, rfl⟩
  obtain ⟨ky, hky⟩ := hkw
  rw [← hky] at hY6 ⊢
  clear hky hk1 hk2
  have HY := Lib.hid hY6
  have HX := Lib.hid hX5
  obtain ⟨c0, c1, c2, c3, c4, c5, c6, c7, c8⟩ := hY6
  have hD5 := (HB.out.1 _ hE5.1).take hm40
  have HR := Lib.hid (renc_any ky p1 p2 fd' at' n' til' sn' da m4 dc _ w5 hD5)
  have hlen := opEnc_len ⟨ky, p1, p2, fd', at', n', til', sn', ds.take m4⟩
  unfold ovCells at HR
  generalize opEnc ⟨ky, p1, p2, fd', at', n', til', sn', ds.take m4⟩ = E at *
  obtain ⟨L, r⟩ := E
  simp only at HR hlen
  clear hX5 hD5
  go_wp2_with fail
  refine HR.out.mono ?_
  rintro e w6 ⟨v6, rfl, ho6, hb6⟩
  have hE6 := hE5.step hb6
  have hX6 := HX.out.below hb6 hlX5
  have hY6 := HY.out.below hb6 hlY5
  have hlX6 := Nat.lt_of_lt_of_le hlX5 hb6.size
  have hlY6 := Nat.lt_of_lt_of_le hlY5 hb6.size
  have ho6 := ho6.base hE5.2
  obtain ⟨a6, m, rfl, hL6⟩ := ho6.bs
  clear c0 c1 c2 c3 c4 c5 c6 c7 c8 HY HX HR hE5 hlX5 hlY5 hb6
  have HY := Lib.hid hY6
  obtain ⟨c0, c1, c2, c3, c4, c5, c6, c7, c8⟩ := hX6
  have HSM := Lib.hid (law15_same k ps' ts' fd at_ n til sn da m6 dc _ w6 ((HB.out.1 _ hE6.1).take hm610))
  unfold ovCells at HSM
  clear hY6
  go_wp2_with fail
  refine HSM.out.mono ?_
  rintro e w7 ⟨rfl, hb7⟩
  have hE7 := hE6.step hb7
  have hY7 := HY.out.below hb7 hlY6
  have ho7 := ho6.below hb7
  clear c0 c1 c2 c3 c4 c5 c6 c7 c8 HY HSM hE6 hb7 ho6 hL6 hlX6
  obtain ⟨c0, c1, c2, c3, c4, c5, c6, c7, c8⟩ := hY7
  have HSM := Lib.hid (law15_same ky p1 p2 fd' at' n' til' sn' da m4 dc _ w7 ((HB.out.1 _ hE7.1).take hm40))
  unfold ovCells at HSM
  go_wp2_with fail
  refine HSM.out.mono ?_
  rintro e w8 ⟨rfl, hb8⟩
  have hE8 := hE7.step hb8
  have ho8 := ho7.below hb8
  clear c0 c1 c2 c3 c4 c5 c6 c7 c8 HSM hE7 hb8 ho7 hlY6
  have hL8 : Bs w8 a6 L.length m L := by
    obtain ⟨a, c, h, hb⟩ := ho8.bs
    cases h; exact hb
  go_wp2_with fail
  refine (law15_read a6 L.length m L w8 hL8 (by unfold big; omega)).mono ?_
  rintro e w9 ⟨rfl, hb9⟩
  have hE9 := hE8.step hb9
  have ho9 := ho8.below hb9
  clear hE8 ho8 hL8 hb9
  go_wp2_with fail
  refine (cut_any 100 ab lb cb _ hlbc (by decide)).mono ?_
  rintro e w10 ⟨rfl, rfl⟩
  have hBb := (HB.out.2 _ hE9.1).take (Nat.min_le_left lb 100)
  have hm100 : min lb 100 ≤ 100 := Nat.min_le_right _ _
  generalize min lb 100 = m1 at *
  go_wp2_with fail
  refine (law15_read ab m1 cb _ w9 hBb (by unfold big; omega)).mono ?_
  rintro e w10 ⟨rfl, hb10⟩
  have hE10 := hE9.step hb10
  have ho10 := ho9.below hb10
  clear hE9 ho9 hBb hb10
  rcases ho10.parts with ⟨h6, hL0⟩ | ⟨g, cg, h6, hgH, hRow⟩
  · subst hL0
    obtain ⟨rfl, rfl⟩ : a6 = none ∧ m = 0 := by simpa using h6
    clear h6
    simp only [List.length_nil]
    clear ho10
    go_wp2_with fail
    refine (law15_read none 0 0 [] w10 (Bs.nil _) (by unfold big; omega)).mono ?_
    rintro e w11 ⟨rfl, hb11⟩
    have hE11 := hE10.step hb11
    go_wp2_with fail
    refine (law15_known _).mono ?_
    rintro e w12 ⟨rfl, hb12⟩
    go_wp2_with fail
    go_ret
    rw [← HH.out]
    exact ⟨rfl, (hE11.step hb12).1⟩
  · obtain ⟨rfl, rfl⟩ : a6 = some ⟨g, 0, none⟩ ∧ m = cg := by simpa using h6
    clear h6
    clear ho10
    by_cases hL0 : L.length = 0
    · obtain rfl := List.length_eq_zero_iff.1 hL0
      clear hL0
      go_wp2_with fail
      refine (law15_read _ 0 _ [] w10 hRow.bs (by unfold big; omega)).mono ?_
      rintro e w11 ⟨rfl, hb11⟩
      have hE11 := hE10.step hb11
      go_wp2_with fail
      refine (law15_known _).mono ?_
      rintro e w12 ⟨rfl, hb12⟩
      go_wp2_with fail
      go_ret
      rw [← HH.out]
      exact ⟨rfl, (hE11.step hb12).1⟩
    · have hpos : (0 : Int) < (L.length : Int) := by omega
      have hw1 : IntKind.i64.wrap ((L.length : Int) - 1) = (L.length : Int) - 1 := IntWalk.i64_in _ (by omega)
      clear hL0
      go_wp2_with fail
      refine (within_any iat 0 ((L.length : Int) - 1) _ (by omega) (by omega) (by omega)).mono ?_
      rintro e w11 ⟨rfl, rfl⟩
      have hi := within_bd iat 0 ((L.length : Int) - 1) (by omega)
      generalize within iat 0 ((L.length : Int) - 1) = ii at *
      obtain ⟨i, rfl⟩ : ∃ i : Nat, ii = (i : Int) := ⟨ii.toNat, by omega⟩
      have hiL : i < L.length := by omega
      have hc := hRow.cell i hiL
      have hfz := hRow.frozen i
      have hcl := hRow.len
      have hxo := u8_xor_nat (L[i]).toNat t.toNat (UInt8.toNat_lt _) (UInt8.toNat_lt _)
      have hR15 := hRow.set i (L[i] ^^^ t)
      rw [UInt8.toNat_xor] at hR15
      have hE15 := hE10.setCell (p := ⟨g, i, none⟩) hgH (.int .u8 (((L[i]).toNat ^^^ t.toNat : Nat) : Int))
      have hl15 : (L.set i (L[i] ^^^ t)).length = L.length := List.length_set
      go_upto_region 9 with fail
      generalize w10.setCell ⟨g, i, none⟩ (.int .u8 (((L[i]).toNat ^^^ t.toNat : Nat) : Int)) = w15 at *
      clear hc hfz hxo hRow hE10
      generalize L.set i (L[i] ^^^ t) = L2 at *
      have hB15 := hR15.bs
      rw [hl15] at hB15
      clear hR15 hw1 hi hcl hl15 hpos
      go_wp2_with fail
      refine (law15_read _ L.length m _ _ hB15 (by unfold big; omega)).mono ?_
      rintro e w16 ⟨rfl, hb16⟩
      have hE16 := hE15.step hb16
      go_wp2_with fail
      refine (law15_known _).mono ?_
      rintro e w17 ⟨rfl, hb17⟩
      go_wp2_with fail
      go_ret
      rw [← HH.out]
      exact ⟨rfl, (hE16.step hb17).1⟩
end Go.Proofs.Ytphjdlckoddgmaa
