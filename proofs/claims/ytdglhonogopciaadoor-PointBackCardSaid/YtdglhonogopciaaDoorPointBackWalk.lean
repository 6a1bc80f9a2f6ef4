/- The walk of PointBack. -/
import Derived.Test.YtdglhonogopciaaDoorPtBack
import Derived.Test.YtdglhonogopciaaDoorSizedb
import Derived.Test.YtdglhonogopciaaDoorWithin
import Derived.Test.YtdglhonogopciaaDoorRef4R
import Derived.Test.YtdglhonogopciaaDoorShaRef
namespace Go.Proofs.YtdglhonogopciaaDoor
open Go.RowKit

theorem pdec_turned (s p g : Int) (m : Mk) (a : Option Addr) (len cap : Nat) (w : World) (hp : isPlan s p g) (hr : m.right g) (hg : g ≤ 65535) (hl : (m.state.length : Int) ≤ 128 * p - 94) (hp2 : 128 * p < 1000000) (i : Nat) (x t : UInt8) (hx : (ptBytes p.toNat m)[i]? = some x)
    (hB : Bs w a len cap ((ptBytes p.toNat m).set i (x ^^^ t))) :
    ∃ why m', (Calls Tryd.prog 19 #[.agg #[.int .i64 s, .int .i64 p, .int .i64 g], .slice a len cap] w fun e w' => PtPost why m' w.heap.size e w' ∧ Below w.heap.size w w') ∧ (t = 0 → why = 0) ∧ (t ≠ 0 → why = 0 → 94 ≤ i ∧ i < 94 + m.state.length ∧ sha m'.state = sha m.state) ∧ m'.state.length ≤ 1000000 := by
  have hbl := ptBytes_length p m hr.2.2.2.2.2 hl
  have hil : i < (ptBytes p.toNat m).length := (List.getElem?_eq_some_iff.1 hx).1
  by_cases ht : t = 0
  · subst ht
    have e : (ptBytes p.toNat m).set i (x ^^^ 0) = ptBytes p.toNat m := by
      rw [UInt8.xor_zero]
      rw [List.getElem?_eq_getElem hil] at hx
      rw [← Option.some.inj hx]
      exact List.set_getElem_self hil
    rw [e] at hB
    exact ⟨0, m, pdec_back s p g m a len cap w hp hr hl hB, fun _ => rfl, fun h => absurd rfl h, by omega⟩
  · have hll : len = (ptBytes p.toNat m).length := by rw [← hB.1, List.length_set]
    obtain ⟨G, Q, S, N, c, H, h, rest, hG, hQ, hS, hH, hN, hc, hh, hrl, e⟩ : ∃ G Q S N c H h rest, G < 18446744073709551616 ∧ Q < 18446744073709551616 ∧ S < 65536 ∧ H.length = 32 ∧ N < 18446744073709551616 ∧ c < 4294967296 ∧ h.length = 32 ∧ rest.length = ((ptBytes p.toNat m).set i (x ^^^ t)).length - 94 ∧ (ptBytes p.toNat m).set i (x ^^^ t) = ptImg G Q S H N c h rest := by
      obtain ⟨G, Q, S, H, N, c, h, rest, h1⟩ := pt_split ((ptBytes p.toNat m).set i (x ^^^ t)) (by rw [List.length_set]; have := hp.bd; omega)
      exact ⟨G, Q, S, N, c, H, h, rest, h1⟩
    have hB2 := hB
    rw [e] at hB2
    have hT := pt_turned p g m hr hg hl hp2 i x t hx ht G Q S N c H h rest hG hQ hS hH hN hc hh e
    refine ⟨_, _, pdec_ok s p g a len cap w G Q S N c H h rest hp hB2 (by omega) ⟨hG, hQ, hS, hH, hN, hc, hh⟩, fun h => absurd h ht, fun _ hw => ?_, ?_⟩
    · obtain ⟨h1, h2, h3⟩ := hT hw
      refine ⟨h1, h2, ?_⟩
      rw [hw]
      exact h3
    · unfold ptMk
      split
      · show (rest.take N).length ≤ _
        rw [List.length_take, hrl, List.length_set]
        omega
      · exact Nat.zero_le _
theorem five_of {l : List Value} (h : l.length = 5) : ∃ x0 x1 x2 x3 x4, l = [x0, x1, x2, x3, x4] := by
  match l, h with
  | [x0, x1, x2, x3, x4], _ => exact ⟨x0, x1, x2, x3, x4, rfl⟩
set_option maxRecDepth 100000 in
theorem Arg.mark {w : World} {v : Value} (h : Arg Tryd.prog w 25 v) :
    ∃ (gen sq : Nat) (sg : Int) (ha : Option Addr) (hl hc : Nat) (hs : List UInt8) (sa : Option Addr) (sl sc : Nat) (ss : List UInt8), v = .agg #[.int .u64 (gen : Int), .int .u64 (sq : Int), .int .i64 sg, .slice ha hl hc, .slice sa sl sc] ∧ gen < 18446744073709551616 ∧ sq < 18446744073709551616 ∧ Bs w ha hl hc hs ∧ Bs w sa sl sc ss := by
  obtain ⟨cs, rfl, hsz, hf⟩ := h.struct Tryd.underlying25
  rw [show Tryd.prog.cellsOf 25 = 5 by kernel_rfl] at hsz
  obtain ⟨l⟩ := cs
  obtain ⟨x0, x1, x2, x3, x4, rfl⟩ := five_of (l := l) (by simpa using hsz)
  have q0 : Can Tryd.prog w 22 (([x0, x1, x2, x3, x4].drop 0).take (Tryd.prog.cellsOf 22)) := hf 0 _ rfl
  have q1 : Can Tryd.prog w 22 (([x0, x1, x2, x3, x4].drop 1).take (Tryd.prog.cellsOf 22)) := hf 1 _ rfl
  have q2 : Can Tryd.prog w 3 (([x0, x1, x2, x3, x4].drop 2).take (Tryd.prog.cellsOf 3)) := hf 2 _ rfl
  have q3 : Can Tryd.prog w 23 (([x0, x1, x2, x3, x4].drop 3).take (Tryd.prog.cellsOf 23)) := hf 3 _ rfl
  have q4 : Can Tryd.prog w 23 (([x0, x1, x2, x3, x4].drop 4).take (Tryd.prog.cellsOf 23)) := hf 4 _ rfl
  rw [show Tryd.prog.cellsOf 22 = 1 by kernel_rfl] at q0 q1
  rw [show Tryd.prog.cellsOf 3 = 1 by kernel_rfl] at q2
  rw [show Tryd.prog.cellsOf 23 = 1 by kernel_rfl] at q3 q4
  obtain ⟨a, h0, w0⟩ := q0.int Tryd.underlying22
  obtain ⟨b, h1, w1⟩ := q1.int Tryd.underlying22
  obtain ⟨c, h2, _⟩ := q2.int Tryd.underlying3
  obtain ⟨ha, hl, hc, hs, h3, hB3⟩ := q3.bytes Tryd.underlying23 Tryd.underlying5 (by kernel_rfl)
  obtain ⟨sa, sl, sc, ss, h4, hB4⟩ := q4.bytes Tryd.underlying23 Tryd.underlying5 (by kernel_rfl)
  have ba : 0 ≤ a ∧ a < 18446744073709551616 := by simp [Lit.wf, IntKind.min, IntKind.max, IntKind.bits, IntKind.signed] at w0; omega
  have bb : 0 ≤ b ∧ b < 18446744073709551616 := by simp [Lit.wf, IntKind.min, IntKind.max, IntKind.bits, IntKind.signed] at w1; omega
  obtain ⟨m, rfl⟩ : ∃ m : Nat, a = (m : Int) := ⟨a.toNat, by omega⟩
  obtain ⟨n, rfl⟩ : ∃ n : Nat, b = (n : Int) := ⟨b.toNat, by omega⟩
  simp at h0 h1 h2 h3 h4
  subst h0 h1 h2 h3 h4
  exact ⟨m, n, c, ha, hl, hc, hs, sa, sl, sc, ss, rfl, by omega, by omega, hB3, hB4⟩
set_option maxHeartbeats 1000000 in
set_option maxRecDepth 100000 in
theorem pback_any (n : Int) (gen sq : Nat) (sg : Int) (ha : Option Addr) (hl hc : Nat) (hs : List UInt8) (sa : Option Addr) (sl sc : Nat) (ss : List UInt8) (at_ : Int) (t : UInt8) (w : World) (hgb : gen < 18446744073709551616) (hsb : sq < 18446744073709551616) (hHB : Bs w ha hl hc hs) (hSB : Bs w sa sl sc ss) :
    Calls Tryd.prog 6 #[.int .i64 n, .agg #[.int .u64 (gen : Int), .int .u64 (sq : Int), .int .i64 sg, .slice ha hl hc, .slice sa sl sc], .int .i64 at_, .int .u8 (t.toNat : Int)] w fun e w' => e = .returned (.bool true) ∧ Below w.heap.size w w' := by
  have HPA := Lib.hid (fun w => plan_any n w)
  have hpl := ptPlan n
  have hbd := ptSz_bd n
  generalize ptSz n = sz at *
  generalize seg sz = g at *
  have hp1 : 16 ≤ sz / 4 ∧ sz / 4 ≤ 66 := by omega
  generalize sz / 4 = p at *
  have hg := hpl.bd
  clear hbd
  have HPL := Lib.hid hpl
  have HP1 := Lib.hid hp1
  obtain ⟨G0, hG0⟩ : ∃ G0, G0 = gen % 1099511627776 := ⟨_, rfl⟩
  obtain ⟨Q, hQ⟩ : ∃ Q, Q = sq % 1099511627776 := ⟨_, rfl⟩
  have t1 : (gen : Int) % 1099511627776 = (G0 : Int) := by omega
  have t1' : (gen : Int).tmod 1099511627776 = (G0 : Int) := by rw [Int.tmod_eq_emod_of_nonneg (by omega)]; exact t1
  obtain ⟨G, hG⟩ : ∃ G, G = G0 + 1 := ⟨_, rfl⟩
  have t2 : IntKind.u64.wrap (1 + (G0 : Int)) = (G : Int) := by rw [IntKind.wrap_u64]; omega
  have t3 : (sq : Int) % 1099511627776 = (Q : Int) := by omega
  have t3' : (sq : Int).tmod 1099511627776 = (Q : Int) := by rw [Int.tmod_eq_emod_of_nonneg (by omega)]; exact t3
  have HGQ := Lib.hid (show 1 ≤ G ∧ G ≤ 1099511627776 ∧ Q < 1099511627776 by omega)
  clear hG0 hQ hG hpl hp1
  have hH5 : hl = 0 ∨ ∃ ad, ha = some ad ∧ ad.block < w.heap.size := by
    rcases hHB.2.2.2 with h | ⟨b, off, h1, h2, _⟩
    · exact .inl h
    · exact .inr ⟨_, h1, h2⟩
  have hS5 : sl = 0 ∨ ∃ ad, sa = some ad ∧ ad.block < w.heap.size := by
    rcases hSB.2.2.2 with h | ⟨b, off, h1, h2, _⟩
    · exact .inl h
    · exact .inr ⟨_, h1, h2⟩
  have hMB := heap_alloc_new w (.cells #[.int .u64 (gen : Int), .int .u64 (sq : Int), .int .i64 sg, .slice ha hl hc, .slice sa sl sc] 25)
  replace hHB := hHB.alloc (.cells #[.int .u64 (gen : Int), .int .u64 (sq : Int), .int .i64 sg, .slice ha hl hc, .slice sa sl sc] 25)
  replace hSB := hSB.alloc (.cells #[.int .u64 (gen : Int), .int .u64 (sq : Int), .int .i64 sg, .slice ha hl hc, .slice sa sl sc] 25)
  have hE := (Ext.refl w).alloc (.cells #[.int .u64 (gen : Int), .int .u64 (sq : Int), .int .i64 sg, .slice ha hl hc, .slice sa sl sc] 25)
  obtain ⟨H, hH⟩ : ∃ H, H = w.heap.size := ⟨_, rfl⟩
  rw [← hH] at hE hMB hH5 hS5 ⊢
  have HS5 := Lib.hid (And.intro hH5 hS5)
  clear hH5 hS5
  have HH := Lib.hid hH
  have HW := Lib.hid (And.intro hE (And.intro hMB (And.intro hHB hSB)))
  clear hE hMB hHB hSB hH
  go_enter Tryd.func6, Tryd.ntmps6
  go_wp2_with fail
  rw [← HH.out]
  obtain ⟨hE, hMB, hHB, hSB⟩ := HW.out
  clear HW
  generalize w.alloc (.cells #[.int .u64 (gen : Int), .int .u64 (sq : Int), .int .i64 sg, .slice ha hl hc, .slice sa sl sc] 25) = w0 at *
  refine (HPA.out _).mono ?_
  rintro e w1 ⟨rfl, hb⟩
  replace hE := hE.step hb
  replace hMB : AtC w1 H (.cells #[.int .u64 (gen : Int), .int .u64 (sq : Int), .int .i64 sg, .slice ha hl hc, .slice sa sl sc] 25 (0, 0)) := (hb.block H (lt_of_heap hMB)).trans hMB
  replace hHB := hHB.below hb
  replace hSB := hSB.below hb
  have hMl : H < w1.heap.size := lt_of_heap hMB
  clear hb HPA
  have hP : AtC ((w1.alloc (.cells #[.int .i64 sz, .int .i64 p, .int .i64 g] 31)).alloc (.cells #[.int .i64 sz, .int .i64 p, .int .i64 g] 32)) w1.heap.size (.cells #[.int .i64 sz, .int .i64 p, .int .i64 g] 31 (0, 0)) := (Below.heap_alloc (w1.alloc (.cells #[.int .i64 sz, .int .i64 p, .int .i64 g] 31)) _ w1.heap.size (by simp)).trans (heap_alloc_new w1 _)
  have hbA := ((Below.refl w1.heap.size w1).alloc (Nat.le_refl _) (.cells #[.int .i64 sz, .int .i64 p, .int .i64 g] 31)).alloc (by simp) (.cells #[.int .i64 sz, .int .i64 p, .int .i64 g] 32)
  replace hE := hE.step hbA
  replace hMB := hMB.below hbA
  replace hHB := hHB.below hbA
  replace hSB := hSB.below hbA
  have m0 := cells_at hMB 0
  have m1 := cells_at hMB 1
  have m2 := cells_at hMB 2
  have m3 := cells_at hMB 3
  have m4 := cells_at hMB 4
  simp only [List.getElem?_toArray, List.getElem?_cons_zero, List.getElem?_cons_succ] at m0 m1 m2 m3 m4
  have f0 := frozen_at hMB 0
  have f1 := frozen_at hMB 1
  have f2 := frozen_at hMB 2
  have f3 := frozen_at hMB 3
  have f4 := frozen_at hMB 4
  go_wp2_with fail
  generalize ((w1.alloc (.cells #[.int .i64 sz, .int .i64 p, .int .i64 g] 31)).alloc (.cells #[.int .i64 sz, .int .i64 p, .int .i64 g] 32)) = w2 at *
  obtain ⟨P, hPe⟩ : ∃ P, P = w1.heap.size := ⟨_, rfl⟩
  rw [← hPe] at hP hMl ⊢
  clear hPe hbA
  refine (cut_any 1000 sa sl sc w2 hSB.2.1 (by omega)).mono ?_
  rintro e w3 ⟨rfl, rfl⟩
  obtain ⟨lt, hlt⟩ : ∃ lt, lt = min sl 1000 := ⟨_, rfl⟩
  have hTB := hSB.take (k := min sl 1000) (Nat.min_le_left _ _)
  rw [← hlt] at hTB ⊢
  have hlt2 : lt ≤ 1000 := by omega
  have hlt3 : lt ≤ sl := by omega
  generalize ss.take lt = T at *
  clear hlt hSB
  have hS6 : lt = 0 ∨ ∃ ad, sa = some ad ∧ ad.block < H := HS5.out.2.imp (fun h => by omega) id
  go_upto_region 5 with fail
  have hc3 : Chg (fun k => k = H) w2 (((w2.setCell ⟨H, 4, none⟩ (.slice sa lt sc)).setCell ⟨H, 0, none⟩ (.int .u64 (G : Int))).setCell ⟨H, 1, none⟩ (.int .u64 (Q : Int))) := (((Chg.refl (fun k => k = H) w2).setCell (p := ⟨H, 4, none⟩) (fun _ => rfl) _).setCell (p := ⟨H, 0, none⟩) (fun _ => rfl) _).setCell (p := ⟨H, 1, none⟩) (fun _ => rfl) _
  replace hMB : AtC (((w2.setCell ⟨H, 4, none⟩ (.slice sa lt sc)).setCell ⟨H, 0, none⟩ (.int .u64 (G : Int))).setCell ⟨H, 1, none⟩ (.int .u64 (Q : Int))) H (.cells #[.int .u64 (G : Int), .int .u64 (Q : Int), .int .i64 sg, .slice ha hl hc, .slice sa lt sc] 25 (0, 0)) := cells_set (cells_set (cells_set hMB))
  replace hE := hE.to (hc3.below hE.2 (fun _ _ h => by omega))
  replace hP : AtC (((w2.setCell ⟨H, 4, none⟩ (.slice sa lt sc)).setCell ⟨H, 0, none⟩ (.int .u64 (G : Int))).setCell ⟨H, 1, none⟩ (.int .u64 (Q : Int))) P (.cells #[.int .i64 sz, .int .i64 p, .int .i64 g] 31 (0, 0)) := (hc3.block P (lt_of_heap hP) (by omega)).trans hP
  replace hHB := bs_chg hc3 hHB HS5.out.1
  replace hTB := bs_chg hc3 hTB hS6
  generalize ((w2.setCell ⟨H, 4, none⟩ (.slice sa lt sc)).setCell ⟨H, 0, none⟩ (.int .u64 (G : Int))).setCell ⟨H, 1, none⟩ (.int .u64 (Q : Int)) = w3 at *
  clear hc3 m0 m1 m2 m3 m4 f0 f1 f2 f3 f4 t1 t1' t2 t3 t3'
  have m0 := cells_at hMB 0
  have m1 := cells_at hMB 1
  have m2 := cells_at hMB 2
  have m3 := cells_at hMB 3
  have m4 := cells_at hMB 4
  simp only [List.getElem?_toArray, List.getElem?_cons_zero, List.getElem?_cons_succ] at m0 m1 m2 m3 m4
  have f0 := frozen_at hMB 0
  have f1 := frozen_at hMB 1
  have f2 := frozen_at hMB 2
  have f3 := frozen_at hMB 3
  have f4 := frozen_at hMB 4
  have p0 := cells_at hP 0
  have p1 := cells_at hP 1
  have p2 := cells_at hP 2
  simp only [List.getElem?_toArray, List.getElem?_cons_zero, List.getElem?_cons_succ] at p0 p1 p2
  have hwb := within_bd sg 0 g (by omega)
  go_wp2_with fail
  refine (within_any sg 0 g w3 (by omega) (by omega) (by omega)).mono ?_
  rintro e w4 ⟨rfl, rfl⟩
  generalize within sg 0 g = SI at *
  obtain ⟨SN, rfl⟩ : ∃ SN : Nat, SI = (SN : Int) := ⟨SI.toNat, by omega⟩
  have hc4 : Chg (fun k => k = H) w3 (w3.setCell ⟨H, 2, none⟩ (.int .i64 (SN : Int))) := (Chg.refl (fun k => k = H) w3).setCell (p := ⟨H, 2, none⟩) (fun _ => rfl) _
  have hMB4 : AtC (w3.setCell ⟨H, 2, none⟩ (.int .i64 (SN : Int))) H (.cells #[.int .u64 (G : Int), .int .u64 (Q : Int), .int .i64 (SN : Int), .slice ha hl hc, .slice sa lt sc] 25 (0, 0)) := cells_set hMB
  have hE4 := hE.to (hc4.below hE.2 (fun _ _ h => by omega))
  have hP4 : AtC (w3.setCell ⟨H, 2, none⟩ (.int .i64 (SN : Int))) P (.cells #[.int .i64 sz, .int .i64 p, .int .i64 g] 31 (0, 0)) := (hc4.block P (lt_of_heap hP) (by omega)).trans hP
  have hHB4 := bs_chg hc4 hHB HS5.out.1
  have hTB4 := bs_chg hc4 hTB hS6
  go_wp2_with fail
  generalize w3.setCell ⟨H, 2, none⟩ (.int .i64 (SN : Int)) = w5 at *
  clear hc4 m0 m1 m2 m3 m4 f0 f1 f2 f3 f4 p0 p1 p2 hMB hE hP hHB hTB
  refine (sized_any 32 ha hl hc hs w5 hHB4 (by omega)).mono ?_
  rintro e w6 ⟨v, rfl, ho, hb⟩
  have hHl : (sizedOf 32 hs).length = 32 := sizedOf_length 32 hs
  generalize sizedOf 32 hs = HD at *
  obtain ⟨ah, ch, rfl, hHD⟩ := ho.bsn (n := 32) hHl
  have hE := hE4.step hb
  have hMB : AtC w6 H _ := hMB4.below hb
  have hP : AtC w6 P _ := hP4.below hb
  have hTB := hTB4.below hb
  have hOH := ho.weaken hE4.2
  have hone : ∀ k, (Value.slice ah 32 ch).ownBlock = some k → k ≠ H := fun k hk e => by have h1 := ho.blk k hk; have h2 := lt_of_heap hMB4; omega
  clear hb hE4 hMB4 hP4 hHB4 hTB4 ho
  have m0 := cells_at hMB 0
  have m1 := cells_at hMB 1
  have m2 := cells_at hMB 2
  have m3 := cells_at hMB 3
  have m4 := cells_at hMB 4
  simp only [List.getElem?_toArray, List.getElem?_cons_zero, List.getElem?_cons_succ] at m0 m1 m2 m3 m4
  have f0 := frozen_at hMB 0
  have f1 := frozen_at hMB 1
  have f2 := frozen_at hMB 2
  have f3 := frozen_at hMB 3
  have f4 := frozen_at hMB 4
  have hc6 : Chg (fun k => k = H) w6 (w6.setCell ⟨H, 3, none⟩ (.slice ah 32 ch)) := (Chg.refl (fun k => k = H) w6).setCell (p := ⟨H, 3, none⟩) (fun _ => rfl) _
  have hMB7 : AtC (w6.setCell ⟨H, 3, none⟩ (.slice ah 32 ch)) H (.cells #[.int .u64 (G : Int), .int .u64 (Q : Int), .int .i64 (SN : Int), .slice ah 32 ch, .slice sa lt sc] 25 (0, 0)) := cells_set hMB
  have hE7 := hE.to (hc6.below hE.2 (fun _ _ h => by omega))
  have hP7 : AtC (w6.setCell ⟨H, 3, none⟩ (.slice ah 32 ch)) P (.cells #[.int .i64 sz, .int .i64 p, .int .i64 g] 31 (0, 0)) := (hc6.block P (lt_of_heap hP) (by omega)).trans hP
  have hTB7 := bs_chg hc6 hTB hS6
  have hOH7 := hOH.setOther (p := ⟨H, 3, none⟩) hone (.slice ah 32 ch)
  go_upto_region 7 with fail
  generalize w6.setCell ⟨H, 3, none⟩ (.slice ah 32 ch) = w7 at *
  clear hc6 m0 m1 m2 m3 m4 f0 f1 f2 f3 f4 hMB hE hP hTB hOH hHD hone
  obtain ⟨ah2, ch2, hv2, hHB⟩ := hOH7.bsn (n := 32) hHl
  injection hv2 with hv2 hv3 hv4
  subst hv2 hv4
  clear hv3
  obtain ⟨m, hm⟩ : ∃ m : Mk, m = ⟨G, Q, (SN : Int), HD, T⟩ := ⟨_, rfl⟩
  have hr : m.right g := by rw [hm]; exact ⟨HGQ.out.1, HGQ.out.2.1, by show Q ≤ 1099511627776; have := HGQ.out; omega, by show (0 : Int) ≤ (SN : Int); omega, hwb.2, hHl⟩
  have hTl := hTB7.1
  have hml : (m.state.length : Int) ≤ 128 * p - 94 := by rw [hm]; show ((T.length : Nat) : Int) ≤ _; rw [hTl]; omega
  obtain ⟨LB, hLB⟩ : ∃ LB, LB = (ptBytes p.toNat m).length := ⟨_, rfl⟩
  have hLBp : (LB : Int) = 128 * p := by rw [hLB]; exact ptBytes_length p m (by rw [hm]; exact hHl) hml
  have HEN := Lib.hid (penc_ok sz p g m ah sa 32 ch lt sc w7 HPL.out (by rw [hm]; exact hHB) (by rw [hm]; exact hTB7) hr (by omega))
  have hmv : m.gen = G ∧ m.seq = Q ∧ m.seg = (SN : Int) ∧ m.head = HD ∧ m.state = T := by rw [hm]; exact ⟨rfl, rfl, rfl, rfl, rfl⟩
  rw [hmv.1, hmv.2.1, hmv.2.2.1] at HEN
  have HMV := Lib.hid (And.intro hr (And.intro hml (And.intro hLB.symm (And.intro hLBp hmv))))
  clear hm hr hml hLB hLBp hmv
  have m0 := cells_at hMB7 0
  have m1 := cells_at hMB7 1
  have m2 := cells_at hMB7 2
  have m3 := cells_at hMB7 3
  have m4 := cells_at hMB7 4
  simp only [List.getElem?_toArray, List.getElem?_cons_zero, List.getElem?_cons_succ] at m0 m1 m2 m3 m4
  have p0 := cells_at hP7 0
  have p1 := cells_at hP7 1
  have p2 := cells_at hP7 2
  simp only [List.getElem?_toArray, List.getElem?_cons_zero, List.getElem?_cons_succ] at p0 p1 p2
  go_wp2_with fail
  refine HEN.out.mono ?_
  rintro e w8 ⟨v, rfl, ho, hb⟩
  obtain ⟨gb, cB, rfl, hgb2, hRow⟩ : ∃ gb cB, v = .slice (some ⟨gb, 0, none⟩) (ptBytes p.toNat m).length cB ∧ w7.heap.size ≤ gb ∧ Row w8 gb cB (ptBytes p.toNat m) := by
    rcases ho.parts with ⟨_, h2⟩ | ⟨gb, cB, h1, h2, h3⟩
    · have h4 := HMV.out.2.2.1; have h5 := HMV.out.2.2.2.1; rw [h2] at h4; simp at h4; omega
    · exact ⟨gb, cB, h1, h2, h3⟩
  rw [HMV.out.2.2.1]
  have hBB := hRow.bs
  rw [HMV.out.2.2.1] at hBB
  have hMg : H < gb := by have := lt_of_heap hMB7; omega
  have hPg : P < gb := by have := lt_of_heap hP7; omega
  have HGG := Lib.hid (And.intro hMg (And.intro hPg hgb2))
  have hE := hE7.step hb
  have hMB : AtC w8 H _ := hMB7.below hb
  have hP : AtC w8 P _ := hP7.below hb
  have hTB := hTB7.below hb
  have hHB2 := hHB.below hb
  have hOH := hOH7.below hb
  clear hb ho HEN p0 p1 p2 m0 m1 m2 m3 m4 hE7 hMB7 hP7 hTB7 hHB hOH7 hMg hPg
  have p0 := cells_at hP 0
  have p1 := cells_at hP 1
  have p2 := cells_at hP 2
  simp only [List.getElem?_toArray, List.getElem?_cons_zero, List.getElem?_cons_succ] at p0 p1 p2
  go_wp2_with fail
  refine (pdec_back sz p g m (some ⟨gb, 0, none⟩) LB cB w8 HPL.out HMV.out.1 HMV.out.2.1 hBB).mono ?_
  rintro e w9 ⟨⟨a3, l3, c3, al, lt2, ct, rfl, hOH3, hOT3⟩, hb⟩
  obtain ⟨hr, hml, hLB, hLBp, hmv⟩ := HMV.out
  rw [hmv.1, hmv.2.1, hmv.2.2.1]
  rw [hmv.2.2.2.1] at hOH3
  rw [hmv.2.2.2.2] at hOT3
  obtain ⟨a9, c9, hv2, hH3⟩ := hOH3.bsn (n := 32) hHl
  injection hv2 with hv2 hv3 hv4
  subst hv2 hv4
  have hv3' := hv3.symm
  subst hv3'
  clear hv3
  obtain ⟨a9, c9, hv2, hT3⟩ := hOT3.bsn (n := lt) hTl
  injection hv2 with hv2 hv3 hv4
  subst hv2 hv4
  have hv3' := hv3.symm
  subst hv3'
  clear hv3 hOH3 hOT3 hr hml hLB hmv p0 p1 p2
  have hbA := hb.trans ((Below.refl w9.heap.size w9).alloc (Nat.le_refl _) (.cells #[.int .u64 (G : Int), .int .u64 (Q : Int), .int .i64 (SN : Int), .slice a3 32 c3, .slice al lt ct] 25) |>.mono hb.size)
  have hbB := (Below.refl w9.heap.size w9).alloc (Nat.le_refl _) (.cells #[.int .u64 (G : Int), .int .u64 (Q : Int), .int .i64 (SN : Int), .slice a3 32 c3, .slice al lt ct] 25)
  replace hE := hE.step hbA
  replace hMB := hMB.below hbA
  replace hP := hP.below hbA
  replace hTB := hTB.below hbA
  replace hHB2 := hHB2.below hbA
  replace hRow := hRow.below hbA
  replace hH3 := hH3.below hbB
  replace hT3 := hT3.below hbB
  have hM2 : AtC (w9.alloc (.cells #[.int .u64 (G : Int), .int .u64 (Q : Int), .int .i64 (SN : Int), .slice a3 32 c3, .slice al lt ct] 25)) w9.heap.size (.cells #[.int .u64 (G : Int), .int .u64 (Q : Int), .int .i64 (SN : Int), .slice a3 32 c3, .slice al lt ct] 25 (0, 0)) := heap_alloc_new w9 _
  have z1 : ∀ L : List UInt8, (!(strOf L).toList == (strOf L).toList) = false := fun L => by simp
  have s1 := run_string hHB2
  have s2 := run_string hTB
  have s3 := run_string hH3
  have s4 := run_string hT3
  have i1 : IntKind.i64.wrap (p * 128) = p * 128 := IntWalk.i64_in _ (by have := HP1.out; omega)
  have hLq : ((LB : Int) != p * 128) = false := by rw [bne_eq_false_iff_eq, hLBp]; omega
  obtain ⟨LM, hLM⟩ : ∃ LM : Nat, LB = LM + 1 := ⟨LB - 1, by omega⟩
  have i2 : IntKind.i64.wrap ((LB : Int) - 1) = (LM : Int) := by rw [IntWalk.i64_in _ (by have := HP1.out; omega)]; omega
  have HLM := Lib.hid (And.intro hLM hLBp)
  have hLMb : (LM : Int) ≤ 1000000 := by have := HP1.out; omega
  have p0 := cells_at hP 0
  have p1 := cells_at hP 1
  have p2 := cells_at hP 2
  simp only [List.getElem?_toArray, List.getElem?_cons_zero, List.getElem?_cons_succ] at p0 p1 p2
  have m0 := cells_at hMB 0
  have m1 := cells_at hMB 1
  have m2 := cells_at hMB 2
  have m3 := cells_at hMB 3
  have m4 := cells_at hMB 4
  simp only [List.getElem?_toArray, List.getElem?_cons_zero, List.getElem?_cons_succ] at m0 m1 m2 m3 m4
  have n0 := cells_at hM2 0
  have n1 := cells_at hM2 1
  have n2 := cells_at hM2 2
  have n3 := cells_at hM2 3
  have n4 := cells_at hM2 4
  simp only [List.getElem?_toArray, List.getElem?_cons_zero, List.getElem?_cons_succ] at n0 n1 n2 n3 n4
  clear hb hbA hbB hLBp hLM hBB
  go_wp2_with fail
  generalize w9.alloc (.cells #[.int .u64 (G : Int), .int .u64 (Q : Int), .int .i64 (SN : Int), .slice a3 32 c3, .slice al lt ct] 25) = w10 at *
  generalize w9.heap.size = M2 at *
  refine (within_any at_ 0 LM w10 (by omega) (by omega) (by omega)).mono ?_
  rintro e w11 ⟨rfl, rfl⟩
  have hkb := within_bd at_ 0 LM (by omega)
  generalize within at_ 0 LM = kI at *
  obtain ⟨k, rfl⟩ : ∃ k : Nat, kI = (k : Int) := ⟨kI.toNat, by omega⟩
  obtain ⟨k0, k1⟩ := hkb
  have hkl : k < (ptBytes p.toNat m).length := by have h1 := HMV.out.2.2.1; have h2 := HLM.out.1; omega
  have hkL : (k : Int) < (LB : Int) := by have h2 := HLM.out.1; omega
  have hxc := hRow.cell k hkl
  have hxf := hRow.frozen k
  obtain ⟨x, hxe⟩ : ∃ x, x = (ptBytes p.toNat m)[k] := ⟨_, rfl⟩
  rw [← hxe] at hxc
  have hxo := u8_xor_nat x.toNat t.toNat (UInt8.toNat_lt _) (UInt8.toNat_lt _)
  have hRow2 := hRow.set k (x ^^^ t)
  rw [UInt8.toNat_xor] at hRow2
  have HXE := Lib.hid hxe
  clear hxe
  have hc12 : Chg (fun k => k = gb) w10 (w10.setCell ⟨gb, k, none⟩ (.int .u8 ((x.toNat ^^^ t.toNat : Nat) : Int))) := (Chg.refl (fun k => k = gb) w10).setCell (p := ⟨gb, k, none⟩) (fun _ => rfl) _
  have hB2 := hRow2.bs
  rw [List.length_set, HMV.out.2.2.1] at hB2
  obtain ⟨why, m', hDEC, hw0, hw1, hl6⟩ := pdec_turned sz p g m (some ⟨gb, 0, none⟩) LB cB (w10.setCell ⟨gb, k, none⟩ (.int .u8 ((x.toNat ^^^ t.toNat : Nat) : Int))) HPL.out HMV.out.1 (by omega) HMV.out.2.1 (by have := HP1.out; omega) k x t (by rw [HXE.out]; exact List.getElem?_eq_getElem hkl) hB2
  have HDEC := Lib.hid hDEC
  have hE2 := hE.to (hc12.below hE.2 (fun _ _ h => by have := HGG.out.1; omega))
  have hMB2 : AtC (w10.setCell ⟨gb, k, none⟩ (.int .u8 ((x.toNat ^^^ t.toNat : Nat) : Int))) H _ := (hc12.block H (lt_of_heap hMB) (by have := HGG.out.1; omega)).trans hMB
  have hP2 : AtC (w10.setCell ⟨gb, k, none⟩ (.int .u8 ((x.toNat ^^^ t.toNat : Nat) : Int))) P _ := (hc12.block P (lt_of_heap hP) (by have := HGG.out.2.1; omega)).trans hP
  have hTB2 := bs_chg hc12 hTB (hS6.imp id (fun ⟨ad, h1, h2⟩ => ⟨ad, h1, by have := HGG.out.1; omega⟩))
  have q0 := cells_at hP2 0
  have q1 := cells_at hP2 1
  have q2 := cells_at hP2 2
  simp only [List.getElem?_toArray, List.getElem?_cons_zero, List.getElem?_cons_succ] at q0 q1 q2
  have hEx0 := Lib.hid (And.intro hE2 (And.intro hMB2 (And.intro hP2 hTB2)))
  clear hE2 hMB2 hP2 hTB2 hDEC hB2 hRow2 hc12
  go_wp2_with fail
  obtain ⟨hE, hMB, hP, hTB⟩ := hEx0.out
  clear hEx0
  generalize (w10.setCell ⟨gb, k, none⟩ (.int .u8 ((x.toNat ^^^ t.toNat : Nat) : Int))) = w12 at *
  clear hxc hxf hxo p0 p1 p2 m0 m1 m2 m3 m4 n0 n1 n2 n3 n4 s1 s2 s3 s4
  refine HDEC.out.mono ?_
  rintro e w13 ⟨⟨a5, l5, c5, a6, l6, c6, rfl, hO5, hO6⟩, hb⟩
  obtain ⟨a9, c9, hv2, hB6⟩ := hO6.bsn (n := m'.state.length) rfl
  injection hv2 with hv2 hv3 hv4
  subst hv2 hv4
  rw [← hv3] at hB6 hl6
  clear hv3
  have hbA := hb.trans ((Below.refl w13.heap.size w13).alloc (Nat.le_refl _) (.cells #[.int .u64 (m'.gen : Int), .int .u64 (m'.seq : Int), .int .i64 m'.seg, .slice a5 l5 c5, .slice a6 l6 c6] 25) |>.mono hb.size)
  have hbB := (Below.refl w13.heap.size w13).alloc (Nat.le_refl _) (.cells #[.int .u64 (m'.gen : Int), .int .u64 (m'.seq : Int), .int .i64 m'.seg, .slice a5 l5 c5, .slice a6 l6 c6] 25)
  replace hE := hE.step hbA
  replace hMB := hMB.below hbA
  replace hTB := hTB.below hbA
  replace hB6 := hB6.below hbB
  have hM3 : AtC (w13.alloc (.cells #[.int .u64 (m'.gen : Int), .int .u64 (m'.seq : Int), .int .i64 m'.seg, .slice a5 l5 c5, .slice a6 l6 c6] 25)) w13.heap.size (.cells #[.int .u64 (m'.gen : Int), .int .u64 (m'.seq : Int), .int .i64 m'.seg, .slice a5 l5 c5, .slice a6 l6 c6] 25 (0, 0)) := heap_alloc_new w13 _
  clear hb hbA hbB hO5 hO6 HDEC hP q0 q1 q2
  go_upto_region 14 with fail
  generalize w13.alloc (.cells #[.int .u64 (m'.gen : Int), .int .u64 (m'.seq : Int), .int .i64 m'.seg, .slice a5 l5 c5, .slice a6 l6 c6] 25) = w14 at *
  generalize w13.heap.size = M3 at *
  have m0 := cells_at hMB 0
  have m1 := cells_at hMB 1
  have m2 := cells_at hMB 2
  have m3 := cells_at hMB 3
  have m4 := cells_at hMB 4
  simp only [List.getElem?_toArray, List.getElem?_cons_zero, List.getElem?_cons_succ] at m0 m1 m2 m3 m4
  have i3 : IntKind.i64.wrap (94 + (lt : Int)) = 94 + (lt : Int) := IntWalk.i64_in _ (by omega)
  by_cases ht : t = 0
  · subst ht
    obtain rfl : why = 0 := hw0 rfl
    clear hw0 hw1
    go_wp2_with fail
    refine (pt_known _).mono ?_
    rintro e w90 ⟨rfl, hb⟩
    go_wp2_with fail
    go_ret
    exact ⟨rfl, (hE.step hb).1⟩
  · have htz : ((t.toNat : Int) == 0) = false := byte_ne ht
    by_cases hwy : why = 0
    · subst hwy
      obtain ⟨j1, j2, j3⟩ := hw1 ht rfl
      rw [HMV.out.2.2.2.2.2.2.2.2, hTl] at j2
      rw [HMV.out.2.2.2.2.2.2.2.2] at j3
      have j4 : (94 : Int) ≤ (k : Int) := by omega
      have j5 : (k : Int) < 94 + (lt : Int) := by omega
      have HJ3 := Lib.hid j3
      clear hw0 hw1 j3 ht
      go_upto_region 17 with fail
      obtain ⟨wd, hwd⟩ : ∃ wd, wd = w14.drew := ⟨_, rfl⟩
      have hb : Below w14.heap.size w14 wd := by rw [hwd]; exact (Below.refl _ _).drew
      have hM3 := hM3.below hb
      have hMB := hMB.below hb
      have hB6 := hB6.below hb
      have hTB := hTB.below hb
      have hE := hE.step hb
      clear hb
      refine held_start (by kernel_rfl) (fun hHeld => ?_)
      rw [← hwd] at hHeld ⊢
      clear hwd
      refine held_take (i := 0) (v := ?_) 150 rfl (by kernel_rfl) (by kernel_rfl) (by kernel_rfl) (fun _ _ _ h => h) rfl (by assumption) (Or.inl ⟨by rfl, ?_⟩) ?_
      rotate_left
      · intro w hSw; go_simp; (try with_reducible rfl)
      simp only [List.set_cons_zero, List.set_cons_succ]
      refine held_take (i := 1) (v := ?_) 151 rfl (by kernel_rfl) (by kernel_rfl) (by kernel_rfl) (fun _ _ _ h => h) rfl (by assumption) (Or.inl ⟨by rfl, ?_⟩) ?_
      rotate_left
      · intro w hSw; have kk := hM3.below hSw; have k4 := cells_at kk 4; simp only [List.getElem?_toArray, List.getElem?_cons_zero, List.getElem?_cons_succ] at k4; go_simp; (try with_reducible rfl)
      simp only [List.set_cons_zero, List.set_cons_succ]
      refine held_take (i := 4) (v := ?_) 154 rfl (by kernel_rfl) (by kernel_rfl) (by kernel_rfl) (fun _ _ _ h => h) rfl (by assumption) (Or.inl ⟨by rfl, ?_⟩) ?_
      rotate_left
      · intro w hSw; go_simp; (try with_reducible rfl)
      simp only [List.set_cons_zero, List.set_cons_succ]
      refine held_take (i := 5) (v := ?_) 155 rfl (by kernel_rfl) (by kernel_rfl) (by kernel_rfl) (fun _ _ _ h => h) rfl (by assumption) (Or.inl ⟨by rfl, ?_⟩) ?_
      rotate_left
      · intro w hSw; have kk := hMB.below hSw; have k4 := cells_at kk 4; simp only [List.getElem?_toArray, List.getElem?_cons_zero, List.getElem?_cons_succ] at k4; go_simp; (try with_reducible rfl)
      simp only [List.set_cons_zero, List.set_cons_succ]
      refine wpAnyH_ready (rs := [2]) (by kernel_rfl) (by simp) ?_
      refine (AllReadyH.cons rfl (fun K hK => ?_) AllReadyH.nil)
      go_simp
      refine (rsum_any _ _ _ _ _ (hB6.below hHeld) hl6).mono ?_
      rintro e w1x ⟨va, rfl, hoa, hb⟩
      have hbt := HB.trans hHeld hb
      have hM3 := hM3.below hbt
      have hMB := hMB.below hbt
      have hB6 := hB6.below hbt
      have hTB := hTB.below hbt
      have hE := hE.step hbt
      rw [HJ3.out] at hoa
      obtain ⟨aa, ca, rfl, hBa⟩ := hoa.bsn (n := 32) (sha_length _)
      clear hoa
      go_wp2_with fail
      refine hK.out _ _ hbt (fun _ => held_next hbt (fun hHeld2 => ?_))
      clear hK hHeld hb hbt K
      have hHeld := hHeld2
      clear hHeld2
      refine held_take (i := 3) (v := ?_) 153 rfl (by kernel_rfl) (by kernel_rfl) (by kernel_rfl) (fun _ _ _ h => h) rfl (by assumption) (Or.inl ⟨by rfl, ?_⟩) ?_
      rotate_left
      · intro w hSw; have hs := run_string (hBa.below hSw); go_simp; (try with_reducible rfl)
      simp only [List.set_cons_zero, List.set_cons_succ]
      refine wpAnyH_ready (rs := [6]) (by kernel_rfl) (by simp) ?_
      refine (AllReadyH.cons rfl (fun K hK => ?_) AllReadyH.nil)
      go_simp
      refine (rsum_any _ _ _ _ _ (hTB.below hHeld) (by omega)).mono ?_
      rintro e w2x ⟨vb, rfl, hob, hb⟩
      have hbt := HB.trans hHeld hb
      have hM3 := hM3.below hbt
      have hMB := hMB.below hbt
      have hB6 := hB6.below hbt
      have hTB := hTB.below hbt
      have hE := hE.step hbt
      have hBa := hBa.below hbt
      obtain ⟨ab, cb, rfl, hBb⟩ := hob.bsn (n := 32) (sha_length _)
      clear hob
      go_wp2_with fail
      refine hK.out _ _ hbt (fun _ => held_next hbt (fun hHeld2 => ?_))
      clear hK hHeld hb hbt K
      have hHeld := hHeld2
      clear hHeld2
      refine held_take (i := 7) (v := ?_) 157 rfl (by kernel_rfl) (by kernel_rfl) (by kernel_rfl) (fun _ _ _ h => h) rfl (by assumption) (Or.inl ⟨by rfl, ?_⟩) ?_
      rotate_left
      · intro w hSw; have hs := run_string (hBb.below hSw); go_simp; (try with_reducible rfl)
      simp only [List.set_cons_zero, List.set_cons_succ]
      refine held_take (i := 8) (v := ?_) 158 rfl (by kernel_rfl) (by kernel_rfl) (by kernel_rfl) (fun _ _ _ h => h) rfl (by assumption) (Or.inl ⟨by rfl, ?_⟩) ?_
      rotate_left
      · intro w hSw; go_simp; (try with_reducible rfl)
      simp only [List.set_cons_zero, List.set_cons_succ]
      refine held_take (i := 9) (v := ?_) 159 rfl (by kernel_rfl) (by kernel_rfl) (by kernel_rfl) (fun _ _ _ h => h) rfl (by assumption) (Or.inl ⟨by rfl, ?_⟩) ?_
      rotate_left
      · intro w hSw; go_simp; (try with_reducible rfl)
      simp only [List.set_cons_zero, List.set_cons_succ]
      refine wpAnyH_ready (rs := [10]) (by kernel_rfl) (by simp) ?_
      refine (AllReadyH.cons rfl (fun K hK => ?_) AllReadyH.nil)
      go_simp
      refine (pt_known _).mono ?_
      rintro e w3x ⟨rfl, hb⟩
      have hbt := HB.trans hHeld hb
      have hM3 := hM3.below hbt
      have hMB := hMB.below hbt
      have hB6 := hB6.below hbt
      have hTB := hTB.below hbt
      have hE := hE.step hbt
      have hBa := hBa.below hbt
      have hBb := hBb.below hbt
      go_wp2_with fail
      refine hK.out _ _ hbt (fun _ => held_next hbt (fun hHeld2 => ?_))
      clear hK hHeld hb hbt K
      have hHeld := hHeld2
      clear hHeld2
      refine held_take (i := 11) (v := ?_) 161 rfl (by kernel_rfl) (by kernel_rfl) (by kernel_rfl) (fun _ _ _ h => h) rfl (by assumption) (Or.inl ⟨by rfl, ?_⟩) ?_
      rotate_left
      · intro w hSw; go_simp; (try with_reducible rfl)
      simp only [List.set_cons_zero, List.set_cons_succ]
      refine held_take (i := 12) (v := ?_) 8 rfl (by kernel_rfl) (by kernel_rfl) (by kernel_rfl) (fun _ _ _ h => h) rfl (by assumption) (Or.inl ⟨by rfl, ?_⟩) ?_
      rotate_left
      · intro w hSw; go_simp; (try with_reducible rfl)
      simp only [List.set_cons_zero, List.set_cons_succ]
      refine wpAnyH_done (by kernel_rfl) ?_ _
      go_wp2_with fail
      go_ret
      exact ⟨rfl, (hE.step hHeld).1⟩
    · have g1 : ((why : Int) == 0) = false := by rw [beq_eq_false_iff_ne]; omega
      have g2 : ((why : Int) != 0) = true := by rw [bne_iff_ne]; omega
      clear hw0 hw1 ht
      by_cases j4 : (94 : Int) ≤ (k : Int)
      · by_cases j5 : (k : Int) < 94 + (lt : Int)
        · go_wp2_with fail
          refine (pt_known _).mono ?_
          rintro e w90 ⟨rfl, hb⟩
          go_wp2_with fail
          go_ret
          exact ⟨rfl, (hE.step hb).1⟩
        · go_wp2_with fail
          refine (pt_known _).mono ?_
          rintro e w90 ⟨rfl, hb⟩
          go_wp2_with fail
          go_ret
          exact ⟨rfl, (hE.step hb).1⟩
      · go_wp2_with fail
        refine (pt_known _).mono ?_
        rintro e w90 ⟨rfl, hb⟩
        go_wp2_with fail
        go_ret
        exact ⟨rfl, (hE.step hb).1⟩
theorem PointBack_walk (v0 v1 v2 v3 : Value) (w : World) (h0 : Arg Tryd.prog w 3 v0) (h1 : Arg Tryd.prog w 25 v1) (h2 : Arg Tryd.prog w 3 v2) (h3 : Arg Tryd.prog w 5 v3) :
    Calls Tryd.prog 6 #[v0, v1, v2, v3] w fun e w' => e = .returned (.bool true) ∧ Below w.heap.size w w' := by
  obtain ⟨n, rfl, _⟩ := h0.int Tryd.underlying3
  obtain ⟨gen, sq, sg, ha, hl, hc, hs, sa, sl, sc, ss, rfl, hg, hq, hB3, hB4⟩ := h1.mark
  obtain ⟨a, rfl, _⟩ := h2.int Tryd.underlying3
  obtain ⟨b, rfl, wb⟩ := h3.int Tryd.underlying5
  rw [← byteOf_toNat wb]
  exact pback_any n gen sq sg ha hl hc hs sa sl sc ss a (byteOf b) w hg hq hB3 hB4
end Go.Proofs.YtdglhonogopciaaDoor
