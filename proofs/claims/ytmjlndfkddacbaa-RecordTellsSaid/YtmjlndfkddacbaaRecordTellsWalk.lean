/- The walk of RecordTells. -/
import Derived.Test.YtmjlndfkddacbaaLaw16
import Derived.Test.YtmjlndfkddacbaaWithin
import Derived.Test.YtmjlndfkddacbaaCut
import Derived.Test.YtmjlndfkddacbaaTools
import Derived.Deep.DeepCutAuto
namespace Go.Proofs.Ytmjlndfkddacbaa
open Go.RowKit

set_option maxHeartbeats 1000000 in
set_option maxRecDepth 100000 in
theorem RecordTells_walk (v0 : Value) (v1 : Value) (v2 : Value) (v3 : Value) (v4 : Value) (w : World) (h0 : Arg Try.prog w 27 v0) (h1 : Arg Try.prog w 25 v1) (h2 : Arg Try.prog w 3 v2) (h3 : Arg Try.prog w 5 v3) (h4 : Arg Try.prog w 4 v4) :
    Calls Try.prog 4 #[v0, v1, v2, v3, v4] w fun e w' => e = .returned (.bool true) ∧ Below w.heap.size w w' := by
  obtain ⟨k, q, a, len, cap, ys, rfl, hq, hB⟩ := h0.record
  obtain ⟨ab, lb, cb, bs, rfl, hBb⟩ := h1.bytes Try.underlying25 Try.underlying5 (by kernel_rfl)
  obtain ⟨at_, rfl, _⟩ := h2.int Try.underlying3
  obtain ⟨z, rfl, hz⟩ := h3.int Try.underlying5
  obtain ⟨t, rfl⟩ : ∃ t : UInt8, (t.toNat : Int) = z := ⟨byteOf z, byteOf_toNat hz⟩
  obtain ⟨cut, rfl⟩ := h4.bool Try.underlying4
  clear h0 h1 h2 h3 h4 hz
  obtain ⟨H, hH⟩ : ∃ H, H = w.heap.size := ⟨_, rfl⟩
  have HH := Lib.hid hH
  have hH0 := heap_alloc_new w (.cells #[.int .i64 k, .int .u64 (q : Int), .slice a len cap] 27)
  have hE0 := (Ext.refl w).alloc (.cells #[.int .i64 k, .int .u64 (q : Int), .slice a len cap] 27)
  have hs0 := size_alloc w (.cells #[.int .i64 k, .int .u64 (q : Int), .slice a len cap] 27)
  rw [← hH] at hH0 hE0 hs0 ⊢
  have hlc := hB.2.1
  have hlbc := hBb.2.1
  obtain ⟨m, hm⟩ : ∃ m, m = min len 910 := ⟨_, rfl⟩
  obtain ⟨m3, hm3⟩ : ∃ m3, m3 = min m 300 := ⟨_, rfl⟩
  have hmc : m ≤ cap := by omega
  have HCut := Lib.hid (fun W => cut_any 910 a len cap W hlc (by omega))
  have HCut3 := Lib.hid (fun W => cut_any 300 a m cap W hmc (by omega))
  rw [← hm] at HCut
  rw [← hm3] at HCut3
  have hBm : ∀ W, Below H w W → Bs W a m cap (ys.take m) := fun W hb => (hB.take (by omega)).below (by rw [← hH]; exact hb)
  have hBm3 : ∀ W, Below H w W → Bs W a m3 cap (ys.take m3) := fun W hb => (hB.take (by omega)).below (by rw [← hH]; exact hb)
  have hBbb : ∀ W, Below H w W → Bs W ab lb cb bs := fun W hb => hBb.below (by rw [← hH]; exact hb)
  have HB := Lib.hid (And.intro hBm (And.intro hBm3 hBbb))
  have hm33 : m3 ≤ 300 := by omega
  clear hm hm3 hBm hBm3 hBbb hB hBb hlc hH
  go_enter Try.func4, Try.ntmps4
  go_upto_region 1 with fail
  rw [← HH.out]
  generalize w.alloc (.cells #[.int .i64 k, .int .u64 (q : Int), .slice a len cap] 27) = w0 at *
  have HH0 := Lib.hid hH0
  obtain ⟨c0, c1, c2, f0, f1, f2⟩ := three_cells hH0
  clear hH0
  go_wp2_with fail
  refine (HCut.out _).mono ?_
  rintro e w1 ⟨rfl, rfl⟩
  have hH1 := three_set2 (y := .slice a m cap) HH0.out
  have hE1 := hE0.setCell (p := ⟨H, 2, none⟩) (Nat.le_refl _) (.slice a m cap)
  have hs1 : H < (w0.setCell ⟨H, 2, none⟩ (.slice a m cap)).heap.size := by simpa [World.setCell] using hs0
  have HH1 := Lib.hid hH1
  clear hH1 hE0
  go_upto_region 2 with fail
  generalize w0.setCell ⟨H, 2, none⟩ (.slice a m cap) = w1 at *
  clear c0 c1 c2 f0 f1 f2
  obtain ⟨c0, c1, c2, f0, f1, f2⟩ := three_cells HH1.out
  obtain ⟨Z, hZ⟩ : ∃ Z, Z = w1.heap.size := ⟨_, rfl⟩
  have HZ := Lib.hid hZ
  have hZ2 := heap_alloc_new w1 (.cells #[.int .i64 k, .int .u64 (q : Int), .slice a m cap] 27)
  have hH2 := (((Below.refl _ _).alloc (Nat.le_refl _) (.cells #[.int .i64 k, .int .u64 (q : Int), .slice a m cap] 27)).block H hs1).trans HH1.out
  have hE2 := hE1.alloc (.cells #[.int .i64 k, .int .u64 (q : Int), .slice a m cap] 27)
  have hs2 := size_alloc w1 (.cells #[.int .i64 k, .int .u64 (q : Int), .slice a m cap] 27)
  rw [← hZ] at hZ2 hs2 hs1
  have HS2 := Lib.hid (And.intro hH2 hZ2)
  clear hZ2 hH2 hE1 hZ
  go_upto_region 3 with fail
  rw [← HZ.out]
  generalize w1.alloc (.cells #[.int .i64 k, .int .u64 (q : Int), .slice a m cap] 27) = w2 at *
  clear c0 c1 c2 f0 f1 f2
  obtain ⟨c0, c1, c2, f0, f1, f2⟩ := three_cells HS2.out.1
  obtain ⟨d0, d1, d2, g0, g1, g2⟩ := three_cells HS2.out.2
  have hZ3 := three_set0 (y := .int .i64 1) HS2.out.2
  have hH3 := ((Chg.setCell (S := fun k => k = Z) (p := ⟨Z, 0, none⟩) (Chg.refl _ w2) (fun _ => rfl) (.int .i64 1)).block H (by omega) (by omega)).trans HS2.out.1
  have hE3 := hE2.setCell (p := ⟨Z, 0, none⟩) (by show H ≤ Z; omega) (.int .i64 1)
  have hs3 : Z < (w2.setCell ⟨Z, 0, none⟩ (.int .i64 1)).heap.size := by simpa [World.setCell] using hs2
  have HS3 := Lib.hid (And.intro hH3 hZ3)
  clear hH3 hZ3 hE2
  go_upto_region 4 with fail
  generalize w2.setCell ⟨Z, 0, none⟩ (.int .i64 1) = w3 at *
  clear c0 c1 c2 f0 f1 f2 d0 d1 d2 g0 g1 g2
  obtain ⟨c0, c1, c2, f0, f1, f2⟩ := three_cells HS3.out.1
  obtain ⟨d0, d1, d2, g0, g1, g2⟩ := three_cells HS3.out.2
  have hqm : (q : Int).tmod 1099511627777 = ((q % 1099511627777 : Nat) : Int) := by rw [Int.tmod_eq_emod_of_nonneg (by omega)]; omega
  have hql : q % 1099511627777 ≤ 1099511627776 := by omega
  generalize q % 1099511627777 = q3 at *
  have hZ4 := three_set1 (y := .int .u64 (q3 : Int)) HS3.out.2
  have hH4 := ((Chg.setCell (S := fun k => k = Z) (p := ⟨Z, 1, none⟩) (Chg.refl _ w3) (fun _ => rfl) (.int .u64 (q3 : Int))).block H (by omega) (by omega)).trans HS3.out.1
  have hE4 := hE3.setCell (p := ⟨Z, 1, none⟩) (by show H ≤ Z; omega) (.int .u64 (q3 : Int))
  have hs4 : Z < (w3.setCell ⟨Z, 1, none⟩ (.int .u64 (q3 : Int))).heap.size := by simpa [World.setCell] using hs3
  have HS4 := Lib.hid (And.intro hH4 hZ4)
  clear hH4 hZ4 hE3
  go_upto_region 5 with fail
  generalize w3.setCell ⟨Z, 1, none⟩ (.int .u64 (q3 : Int)) = w4 at *
  clear c0 c1 c2 f0 f1 f2 d0 d1 d2 g0 g1 g2
  obtain ⟨c0, c1, c2, f0, f1, f2⟩ := three_cells HS4.out.1
  obtain ⟨d0, d1, d2, g0, g1, g2⟩ := three_cells HS4.out.2
  go_wp2_with fail
  refine (HCut3.out _).mono ?_
  rintro e w5 ⟨rfl, rfl⟩
  have hZ5 := three_set2 (y := .slice a m3 cap) HS4.out.2
  have hH5 := ((Chg.setCell (S := fun k => k = Z) (p := ⟨Z, 2, none⟩) (Chg.refl _ w4) (fun _ => rfl) (.slice a m3 cap)).block H (by omega) (by omega)).trans HS4.out.1
  have hE5 := hE4.setCell (p := ⟨Z, 2, none⟩) (by show H ≤ Z; omega) (.slice a m3 cap)
  have hs5 : Z < (w4.setCell ⟨Z, 2, none⟩ (.slice a m3 cap)).heap.size := by simpa [World.setCell] using hs4
  have HS5 := Lib.hid (And.intro hH5 hZ5)
  clear hH5 hZ5 hE4
  go_upto_region 6 with fail
  generalize w4.setCell ⟨Z, 2, none⟩ (.slice a m3 cap) = w5 at *
  clear c0 c1 c2 f0 f1 f2 d0 d1 d2 g0 g1 g2
  obtain ⟨c0, c1, c2, f0, f1, f2⟩ := three_cells HS5.out.1
  obtain ⟨d0, d1, d2, g0, g1, g2⟩ := three_cells HS5.out.2
  go_wp2_with fail
  refine (in_any 1 q3 a m3 cap _).mono ?_
  rintro e w6 ⟨rfl, hb6⟩
  have hH6 := (hb6.block H (by omega)).trans HS5.out.1
  have hZ6 := (hb6.block Z hs5).trans HS5.out.2
  have hE6 := hE5.step hb6
  have hs6 := Nat.lt_of_lt_of_le hs5 hb6.size
  have HEN := Lib.hid (renc_any 1 q3 a m3 cap (ys.take m3) w6 (HB.out.2.1 _ hE6.1) (by omega))
  have hLl : 0 < (rBytes 1 q3 (ys.take m3)).length ∧ (rBytes 1 q3 (ys.take m3)).length ≤ 1000 := by
    have := lenBytes_le (ys.take m3)
    have h2 : (ys.take m3).length ≤ m3 := List.length_take_le _ _
    simp only [rBytes, rHead, List.length_append, be_length, List.length_cons, List.length_nil]
    omega
  generalize rBytes 1 q3 (ys.take m3) = L at *
  clear hE5 hs5 hb6 c0 c1 c2 f0 f1 f2 d0 d1 d2 g0 g1 g2
  go_wp2_with fail
  refine HEN.out.mono ?_
  rintro e w7 ⟨v7, rfl, ho7, hb7⟩
  have hH7 := (hb7.block H (by omega)).trans hH6
  have hZ7 := (hb7.block Z hs6).trans hZ6
  have hE7 := hE6.step hb7
  have hs7 := Nat.lt_of_lt_of_le hs6 hb7.size
  obtain ⟨g, cg, rfl, hgz, hRow⟩ : ∃ g cg, v7 = .slice (some ⟨g, 0, none⟩) L.length cg ∧ w6.heap.size ≤ g ∧ Row w7 g cg L := by
    rcases ho7.parts with ⟨_, h2⟩ | ⟨g, c, h1, h2, h3⟩
    · rw [h2] at hLl; simp at hLl
    · exact ⟨g, c, h1, h2, h3⟩
  have hgH : H ≤ g := by omega
  clear hE6 hs6 hb7 hH6 hZ6 HEN ho7 hgz
  obtain ⟨c0, c1, c2, f0, f1, f2⟩ := three_cells hH7
  obtain ⟨d0, d1, d2, g0, g1, g2⟩ := three_cells hZ7
  have HX := Lib.hid (And.intro hH7 hZ7)
  clear hH7 hZ7
  go_wp2_with fail
  refine (same_any k q a m cap (ys.take m) _ (HB.out.1 _ hE7.1)).mono ?_
  rintro e w8 ⟨rfl, hb8⟩
  have hZ8 := (hb8.block Z hs7).trans HX.out.2
  have hE8 := hE7.step hb8
  have hR8 := hRow.below hb8
  clear hE7 hRow hb8 hs7 HX c0 c1 c2 f0 f1 f2 d0 d1 d2 g0 g1 g2
  obtain ⟨d0, d1, d2, g0, g1, g2⟩ := three_cells hZ8
  clear hZ8
  go_wp2_with fail
  refine (same_any 1 q3 a m3 cap (ys.take m3) _ (HB.out.2.1 _ hE8.1)).mono ?_
  rintro e w9 ⟨rfl, hb9⟩
  have hE9 := hE8.step hb9
  have hR9 := hR8.below hb9
  clear hE8 hR8 hb9 d0 d1 d2 g0 g1 g2
  have HRD := Lib.hid (fun W h => read_any (some ⟨g, 0, none⟩) L.length cg L W h (by unfold big; omega))
  go_wp2_with fail
  refine (HRD.out _ hR9.bs).mono ?_
  rintro e w10 ⟨rfl, hb10⟩
  have hE10 := hE9.step hb10
  have hR10 := hR9.below hb10
  clear hE9 hR9 hb10 HRD
  have hm100 : min lb 100 ≤ 100 := Nat.min_le_right _ _
  have hm20 : min lb 20 ≤ 20 := Nat.min_le_right _ _
  have HC100 := Lib.hid (fun W => cut_any 100 ab lb cb W hlbc (by omega))
  have HC20 := Lib.hid (fun W => cut_any 20 ab lb cb W hlbc (by omega))
  have HBB : Hid (∀ W, Below H w W → Bs W ab (min lb 100) cb (bs.take (min lb 100)) ∧ Bs W ab (min lb 20) cb (bs.take (min lb 20))) :=
    Lib.hid fun W hb => ⟨(HB.out.2.2 W hb).take (Nat.min_le_left _ _), (HB.out.2.2 W hb).take (Nat.min_le_left _ _)⟩
  generalize min lb 100 = n1 at *
  generalize min lb 20 = n2 at *
  go_wp2_with fail
  refine (HC100.out _).mono ?_
  rintro e w11 ⟨rfl, rfl⟩
  go_wp2_with fail
  refine (read_any ab n1 cb _ _ (HBB.out _ hE10.1).1 (by unfold big; omega)).mono ?_
  rintro e w11 ⟨rfl, hb11⟩
  have hE11 := hE10.step hb11
  have hR11 := hR10.below hb11
  clear hE10 hR10 hb11
  have hR11x := hR11
  have hH11 : H ≤ w11.heap.size := hE11.2
  have hO := Own.empty w11
  have hL1 := hR11.bs.alloc (.cells #[] TB)
  have hE11a := hE11.alloc (.cells #[] TB)
  go_wp2_with (at_builtin; refine wpList_append_w ?h1 _ _ rfl (w11.heap.size) _ [] rfl hO (some ⟨g, 0, none⟩) L.length cg L rfl hL1 ?h3 (by simp) ?hk)
  case h3 => simp; omega
  intro v12 w12 ho12 hg12 _
  have hb12 : Below w11.heap.size w11 w12 := (((Ext.refl w11).alloc (.cells #[] TB)).grown hg12 hO.blk).1
  have hE12 := hE11.step hb12
  have hR12 := hR11.below hb12
  clear hO hL1 hE11a hg12 hE11 hR11
  go_wp2_with fail
  refine (HC20.out _).mono ?_
  rintro e w13 ⟨rfl, rfl⟩
  have hb20 := (HBB.out _ hE12.1).2
  go_wp2_with (at_builtin; refine wpList_append_w ?g1 _ _ rfl (w11.heap.size) v12 _ rfl ho12 ab n2 cb _ rfl hb20 ?g3 ?g4 ?gk)
  case g3 => omega
  case g4 => exact hb12.size
  intro v13 w13 ho13 hg13 _
  have hb13 : Below w11.heap.size w12 w13 := (Below.refl _ _).grown hg13 hb12.size ho12.blk
  have hE13 : Ext H w w13 := hE12.to (hb13.mono hH11)
  have hR13 : Row w13 g cg L := hR11x.below (hb12.trans hb13)
  obtain ⟨a13, c13, rfl, hB13⟩ := ho13.bsn (n := L.length + n2) (by rw [List.length_append, hb20.1])
  clear hb12 hb13 ho12 hg13 hE12 hR12 ho13 hb20
  go_wp2_with fail
  refine (read_any _ _ _ _ _ hB13 (by unfold big; omega)).mono ?_
  rintro e w14 ⟨rfl, hb14⟩
  have hE14 := hE13.step hb14
  have hR14 := hR13.below hb14
  clear hE13 hR13 hb14 hB13
  obtain ⟨hL0, hL9⟩ := hLl
  have hw1 : IntKind.i64.wrap ((L.length : Int) - 1) = (L.length : Int) - 1 := IntWalk.i64_in _ (by omega)
  go_wp2_with fail
  refine (within_any at_ 0 ((L.length : Int) - 1) _ (by omega) (by omega) (by omega)).mono ?_
  rintro e w15 ⟨rfl, rfl⟩
  have hi := within_bd at_ 0 ((L.length : Int) - 1) (by omega)
  generalize within at_ 0 ((L.length : Int) - 1) = ii at *
  obtain ⟨i, rfl⟩ : ∃ i : Nat, ii = (i : Int) := ⟨ii.toNat, by omega⟩
  have hiL : i < L.length := by omega
  have hc := hR14.cell i hiL
  have hfz := hR14.frozen i
  have hcl := hR14.len
  have hxo := u8_xor_nat (L[i]).toNat t.toNat (UInt8.toNat_lt _) (UInt8.toNat_lt _)
  have hR15 := hR14.set i (L[i] ^^^ t)
  rw [UInt8.toNat_xor] at hR15
  have hE15 := hE14.setCell (p := ⟨g, i, none⟩) hgH (.int .u8 (((L[i]).toNat ^^^ t.toNat : Nat) : Int))
  have hl15 : (L.set i (L[i] ^^^ t)).length = L.length := List.length_set
  go_upto_region 11 with fail
  generalize w14.setCell ⟨g, i, none⟩ (.int .u8 (((L[i]).toNat ^^^ t.toNat : Nat) : Int)) = w15 at *
  clear hc hfz hxo hR14 hE14
  generalize L.set i (L[i] ^^^ t) = L2 at *
  have hB15 := hR15.bs
  rw [hl15] at hB15
  have hT15 := hB15.take (k := i) (by omega)
  cases cut with
  | true =>
    have q1 : (0 : Int) ≤ (i : Int) := by omega
    have q2 : (i : Int) ≤ (cg : Int) := by omega
    clear hB15 hR15 hw1 hi
    go_wp2_with fail
    refine (read_any _ i cg _ _ hT15 (by unfold big; omega)).mono ?_
    rintro e w16 ⟨rfl, hb16⟩
    have hE16 := hE15.step hb16
    go_wp2_with fail
    refine (rec_known _).mono ?_
    rintro e w17 ⟨rfl, hb17⟩
    go_wp2_with fail
    go_ret
    exact ⟨rfl, (hE16.step hb17).1⟩
  | false =>
    clear hT15 hR15 hw1 hi
    go_wp2_with fail
    refine (read_any _ L.length cg _ _ hB15 (by unfold big; omega)).mono ?_
    rintro e w16 ⟨rfl, hb16⟩
    have hE16 := hE15.step hb16
    go_wp2_with fail
    refine (rec_known _).mono ?_
    rintro e w17 ⟨rfl, hb17⟩
    go_wp2_with fail
    go_ret
    exact ⟨rfl, (hE16.step hb17).1⟩
end Go.Proofs.Ytmjlndfkddacbaa
