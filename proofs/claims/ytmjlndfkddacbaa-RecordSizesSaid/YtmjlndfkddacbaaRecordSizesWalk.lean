/- The walk of RecordSizes. -/
import Derived.Test.YtmjlndfkddacbaaLaw16
import Derived.Test.YtmjlndfkddacbaaRecordLaw
import Derived.Test.YtmjlndfkddacbaaTools
import Derived.Test.YtmjlndfkddacbaaCut
import Derived.Test.YtmjlndfkddacbaaWithin
import Derived.Deep.DeepCutAuto
namespace Go.Proofs.Ytmjlndfkddacbaa
open Go.RowKit

set_option maxHeartbeats 2000000 in
set_option maxRecDepth 100000 in
theorem RecordSizes_walk (v0 : Value) (v1 : Value) (v2 : Value) (w : World) (h0 : Arg Try.prog w 27 v0) (h1 : Arg Try.prog w 25 v1) (h2 : Arg Try.prog w 3 v2) :
    Calls Try.prog 6 #[v0, v1, v2] w fun e w' => e = .returned (.bool true) ∧ Below w.heap.size w w' := by
  obtain ⟨k, q, a, len, cap, ys, rfl, hq, hB⟩ := h0.record
  obtain ⟨ab, lb, cb, bs, rfl, hBb⟩ := h1.bytes Try.underlying25 Try.underlying5 (by kernel_rfl)
  obtain ⟨at_, rfl, _⟩ := h2.int Try.underlying3
  clear h0 h1 h2
  obtain ⟨H, hH⟩ : ∃ H, H = w.heap.size := ⟨_, rfl⟩
  have HH := Lib.hid hH
  have hH0 := heap_alloc_new w (.cells #[.int .i64 k, .int .u64 (q : Int), .slice a len cap] 27)
  have hE0 := (Ext.refl w).alloc (.cells #[.int .i64 k, .int .u64 (q : Int), .slice a len cap] 27)
  have hs0 := size_alloc w (.cells #[.int .i64 k, .int .u64 (q : Int), .slice a len cap] 27)
  rw [← hH] at hH0 hE0 hs0 ⊢
  have hlc := hB.2.1
  have hlbc := hBb.2.1
  obtain ⟨m, hm⟩ : ∃ m, m = min len 200 := ⟨_, rfl⟩
  have HCut := Lib.hid (fun W => cut_any 200 a len cap W hlc (by omega))
  rw [← hm] at HCut
  have HB := Lib.hid (show (∀ W, Below H w W → Bs W a m cap (ys.take m)) ∧ (∀ W, Below H w W → Bs W ab lb cb bs) from
    ⟨fun W hb => (hB.take (by omega)).below (by rw [← hH]; exact hb), fun W hb => hBb.below (by rw [← hH]; exact hb)⟩)
  have hm2 : m ≤ 200 := by omega
  have hyl : (ys.take m).length = m := by have := hB.1; rw [List.length_take]; omega
  generalize ys.take m = ys at *
  clear hm hB hBb hlc hH
  go_enter Try.func6, Try.ntmps6
  go_upto_region 1 with fail
  rw [← HH.out]
  generalize w.alloc (.cells #[.int .i64 k, .int .u64 (q : Int), .slice a len cap] 27) = w0 at *
  have HH0 := Lib.hid hH0
  obtain ⟨c0, c1, c2, f0, f1, f2⟩ := three_cells hH0
  clear hH0
  go_wp2_with fail
  refine (HCut.out _).mono ?_
  rintro e w1 ⟨rfl, rfl⟩
  have hqm : (q : Int).tmod 1099511627777 = ((q % 1099511627777 : Nat) : Int) := by rw [Int.tmod_eq_emod_of_nonneg (by omega)]; omega
  have hql : q % 1099511627777 ≤ 1099511627776 := by omega
  generalize q % 1099511627777 = Q at *
  have hH1 := three_set2 (y := .slice a m cap) HH0.out
  have hH2 := three_set0 (y := .int .i64 1) hH1
  have hE2 := (hE0.setCell (p := ⟨H, 2, none⟩) (Nat.le_refl _) (.slice a m cap)).setCell (p := ⟨H, 0, none⟩) (Nat.le_refl _) (.int .i64 1)
  have hs2 : H < ((w0.setCell ⟨H, 2, none⟩ (.slice a m cap)).setCell ⟨H, 0, none⟩ (.int .i64 1)).heap.size := by simpa [World.setCell] using hs0
  have HH2 := Lib.hid hH2
  clear hH1 hH2 hE0
  go_upto_region 3 with fail
  generalize (w0.setCell ⟨H, 2, none⟩ (.slice a m cap)).setCell ⟨H, 0, none⟩ (.int .i64 1) = w2 at *
  clear c0 c1 c2 f0 f1 f2
  obtain ⟨c0, c1, c2, f0, f1, f2⟩ := three_cells HH2.out
  have hH3 := three_set1 (y := .int .u64 (Q : Int)) HH2.out
  have hE3 := hE2.setCell (p := ⟨H, 1, none⟩) (Nat.le_refl _) (.int .u64 (Q : Int))
  have hs3 : H < (w2.setCell ⟨H, 1, none⟩ (.int .u64 (Q : Int))).heap.size := by simpa [World.setCell] using hs2
  have HH3 := Lib.hid hH3
  clear hH3 hE2
  go_upto_region 4 with fail
  generalize w2.setCell ⟨H, 1, none⟩ (.int .u64 (Q : Int)) = w3 at *
  clear c0 c1 c2 f0 f1 f2
  obtain ⟨c0, c1, c2, f0, f1, f2⟩ := three_cells HH3.out
  have hok : RecOk ((1 : Nat) : Int) Q m := ⟨hql, by omega, .inl rfl⟩
  have HE := Lib.hid (recenc_ok 1 Q a m cap ys w3 (HB.out.1 _ hE3.1) hok)
  have HSZ := Lib.hid (fun w => recsize_any 1 Q a m cap w)
  have hok1 : RecOk (1 : Int) Q m := hok
  rw [if_pos hok1] at HSZ
  have hXl := recBytes_length 1 Q ys (by omega)
  rw [hyl] at hXl
  have HOK := Lib.hid (fun zs => recWhy_ok 1 Q ys zs (by rw [hyl]; exact hok))
  have HNO := Lib.hid (fun n => recWhy_cut 1 Q ys n (by rw [hyl]; exact hok))
  rw [hyl] at HOK HNO
  generalize recBytes 1 Q ys = X at *
  clear hok hok1 hqm
  go_wp2_with fail
  refine HE.out.mono ?_
  rintro e w4 ⟨v4, rfl, ho4, hb4⟩
  obtain ⟨N, hN⟩ : ∃ N, N = 15 + m := ⟨_, rfl⟩
  rw [← hN] at hXl
  obtain ⟨a4, k4, rfl, hX4⟩ := ho4.bsn hXl
  have hE4 := hE3.step hb4
  have hH4 := (hb4.block H hs3).trans HH3.out
  have hs4 := Nat.lt_of_lt_of_le hs3 hb4.size
  have hw15 : IntKind.i64.wrap (15 + (m : Int)) = (N : Int) := by rw [IntWalk.i64_in _ (by omega)]; omega
  have hNe : 15 + (m : Int) = (N : Int) := by omega
  have hx0 : ((N : Int) != (N : Int)) = false := by simp
  have HN := Lib.hid hN
  have hN3 : N ≤ 300 := by omega
  rw [hNe] at HSZ
  clear ho4 hE3 hb4 HE hN hNe c0 c1 c2 f0 f1 f2
  obtain ⟨c0, c1, c2, f0, f1, f2⟩ := three_cells hH4
  have HH4 := Lib.hid hH4
  clear hH4
  go_wp2_with fail
  refine (HSZ.out _).mono ?_
  rintro e w5 ⟨rfl, hb5⟩
  have hE5 := hE4.step hb5
  have hX5 := hX4.below hb5
  have HH5 := Lib.hid ((hb5.block H hs4).trans HH4.out)
  have hs5 := Nat.lt_of_lt_of_le hs4 hb5.size
  clear hE4 hX4 hb5 c0 c1 c2 f0 f1 f2
  have hO := Own.empty w5
  have hX5a := hX5.alloc (.cells #[] TB)
  have hX5x := hX5
  go_wp2_with (at_builtin; refine wpList_append_bytes rfl _ _ rfl (w5.heap.size) _ [] rfl hO a4 N k4 X rfl hX5a ?h3 (by simp) ?hk)
  case h3 => simp; omega
  intro v6 w6 ho6 hg6 _
  have hb6 : Below w5.heap.size w5 w6 := (((Ext.refl w5).alloc (.cells #[] TB)).grown hg6 hO.blk).1
  have hE6 := hE5.step hb6
  have hX6 := hX5.below hb6
  have HH6 := Lib.hid ((hb6.block H hs5).trans HH5.out)
  have hs6 := Nat.lt_of_lt_of_le hs5 hb6.size
  clear hO hX5a hg6 hX5 hE5
  have hm50 : min lb 50 ≤ 50 := Nat.min_le_right _ _
  have HC50 := Lib.hid (fun W => cut_any 50 ab lb cb W hlbc (by omega))
  have hBb6 := (HB.out.2 _ hE6.1).take (k := min lb 50) (Nat.min_le_left _ _)
  generalize min lb 50 = n2 at *
  generalize bs.take n2 = zs at *
  go_wp2_with fail
  refine (HC50.out _).mono ?_
  rintro e w7 ⟨rfl, rfl⟩
  go_wp2_with (at_builtin; refine wpList_append_bytes rfl _ _ rfl (w5.heap.size) v6 X rfl ho6 ab n2 cb zs rfl hBb6 ?g3 ?g4 ?gk)
  case g3 => rw [hXl]; omega
  case g4 => exact hb6.size
  intro v7 w7 ho7 hg7 _
  have hb7 : Below w5.heap.size w6 w7 := (Below.refl _ _).grown hg7 hb6.size ho6.blk
  have hE7 : Ext H w w7 := hE6.to (hb7.mono (by omega))
  have hX7 := (hX5x.below (hb6.trans hb7))
  have HH7 := Lib.hid (((hb6.trans hb7).block H hs5).trans HH5.out)
  have hs7 := Nat.lt_of_lt_of_le hs6 hb7.size
  obtain ⟨a7, k7, rfl, hY7⟩ := ho7.bsn (n := N + n2) (by rw [List.length_append, hXl, hBb6.1])
  obtain ⟨p1, p2, p3, p4, p5⟩ := HOK.out zs
  have HD := Lib.hid (recdec_any a7 (N + n2) k7 (X ++ zs) w7 hY7 (by unfold big; omega))
  have HPP := Lib.hid (And.intro p1 (And.intro p2 (And.intro p3 (And.intro p4 p5))))
  clear ho6 ho7 hg7 hb6 hb7 hE6 hX6 hBb6 hY7 p1 p2 p3 p4 p5 hs6 HH6
  go_wp2_with fail
  refine HD.out.mono ?_
  rintro e w8 ⟨hcase, hb8⟩
  obtain ⟨vb, rfl, hob⟩ : ∃ v, e = .returned (recV 1 Q v ((N : Nat) : Int) 0) ∧ Own w8 w7.heap.size v ys := by
    obtain ⟨p1, p2, p3, p4, p5⟩ := HPP.out
    rcases hcase with ⟨_, v, h1, h2⟩ | ⟨h1, _⟩
    · rw [p2, p3, p5] at h1
      rw [p4] at h2
      have hNN : ((11 + m : Nat) : Int) + 4 = (N : Int) := by have := HN.out; omega
      rw [hNN] at h1
      exact ⟨v, h1, h2⟩
    · exact absurd p1 h1
  obtain ⟨a8, k8, rfl, hY8⟩ := hob.bsn hyl
  have hE8 := hE7.step hb8
  have hX8 := hX7.below hb8
  have HH8 := Lib.hid ((hb8.block H hs7).trans HH7.out)
  have hs8 := Nat.lt_of_lt_of_le hs7 hb8.size
  clear hcase hob HD HPP hE7 hX7 hb8 hs7
  unfold recV
  have D := cell_new w8 #[.int .i64 1, .int .u64 (Q : Int), .slice a8 m k8] 27
  have d1 := D 1; have d2 := D 2
  simp only [List.getElem?_toArray, List.getElem?_cons_zero, List.getElem?_cons_succ] at d1 d2
  have hE9 := hE8.alloc (.cells #[.int .i64 1, .int .u64 (Q : Int), .slice a8 m k8] 27)
  have hX9 := hX8.alloc (.cells #[.int .i64 1, .int .u64 (Q : Int), .slice a8 m k8] 27)
  have hY9 := hY8.alloc (.cells #[.int .i64 1, .int .u64 (Q : Int), .slice a8 m k8] 27)
  have hH9 := (((Below.refl _ _).alloc (Nat.le_refl _) (.cells #[.int .i64 1, .int .u64 (Q : Int), .slice a8 m k8] 27)).block H hs8).trans HH8.out
  have hsD := size_alloc w8 (.cells #[.int .i64 1, .int .u64 (Q : Int), .slice a8 m k8] 27)
  obtain ⟨D9, hD9⟩ : ∃ D9, D9 = w8.heap.size := ⟨_, rfl⟩
  rw [← hD9] at d1 d2 hsD hs8
  have HD9 := Lib.hid hD9
  have HH9 := Lib.hid hH9
  clear D hD9 hH9 hE8 hX8 hY8
  go_upto_region 8 with fail
  rw [← HD9.out]
  generalize w8.alloc (.cells #[.int .i64 1, .int .u64 (Q : Int), .slice a8 m k8] 27) = w9 at *
  have hw1 : IntKind.i64.wrap ((N : Int) - 1) = (N : Int) - 1 := IntWalk.i64_in _ (by omega)
  have hN1 : 1 ≤ N := by have := HN.out; omega
  go_wp2_with fail
  refine (within_any at_ 0 ((N : Int) - 1) _ (by omega) (by omega) (by omega)).mono ?_
  rintro e wq ⟨rfl, rfl⟩
  have hi := within_bd at_ 0 ((N : Int) - 1) (by omega)
  generalize within at_ 0 ((N : Int) - 1) = ii at *
  obtain ⟨i, rfl⟩ : ∃ i : Nat, ii = (i : Int) := ⟨ii.toNat, by omega⟩
  have hiN : i < N := by omega
  have hT := hX9.take (k := i) (by omega)
  have hck := hX9.2.1
  have e2 : (i : Int) ≤ (k4 : Int) := by omega
  have e1 : (0 : Int) ≤ (i : Int) := by omega
  have HD2 := Lib.hid (recdec_any a4 i k4 (X.take i) w9 hT (by unfold big; omega))
  have HW2 := Lib.hid (HNO.out i (by have := HN.out; omega))
  clear hT hck hX9 hw1
  go_wp2_with fail
  refine HD2.out.mono ?_
  rintro e w10 ⟨hcase, hb10⟩
  obtain rfl : e = .returned (recV 0 0 (.slice none 0 0) 0 10) := by
    rcases hcase with ⟨h1, _⟩ | ⟨_, h1⟩
    · rw [HW2.out] at h1; cases h1
    · rw [HW2.out] at h1; exact h1
  clear hcase HD2
  unfold recV
  have d1 := (hb10.cell (p := ⟨D9, 1, none⟩) hsD).trans d1
  have d2 := (hb10.cell (p := ⟨D9, 2, none⟩) hsD).trans d2
  have hsD10 := Nat.lt_of_lt_of_le hsD hb10.size
  have hE10 := (hE9.step hb10).alloc (.cells #[.int .i64 0, .int .u64 0, .slice none 0 0] 27)
  obtain ⟨⟨c0, c1, c2, f0, f1, f2⟩⟩ : Nonempty (_ ∧ _ ∧ _ ∧ _ ∧ _ ∧ _) := ⟨three_cells ((hb10.block H (by omega)).trans HH9.out)⟩
  have hs1 := run_string ((hY9.below hb10).alloc (.cells #[.int .i64 0, .int .u64 0, .slice none 0 0] 27))
  have hs2 := run_string ((HB.out.1 _ (hE9.step hb10).1).alloc (.cells #[.int .i64 0, .int .u64 0, .slice none 0 0] 27))
  have hHlt : H < w10.heap.size := by omega
  clear hY9 hE9 hb10
  go_wp2_with fail
  refine (rec_known _).mono ?_
  rintro e w11 ⟨rfl, hb11⟩
  go_wp2_with fail
  go_ret
  exact ⟨rfl, (hE10.step hb11).1⟩
end Go.Proofs.Ytmjlndfkddacbaa
