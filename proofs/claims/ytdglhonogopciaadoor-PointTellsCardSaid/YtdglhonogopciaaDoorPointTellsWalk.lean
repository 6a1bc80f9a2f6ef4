/- The walk of PointTells. -/
import Derived.Test.YtdglhonogopciaaDoorPtSides
import Derived.Test.YtdglhonogopciaaDoorPtPlan
import Derived.Test.YtdglhonogopciaaDoorPtKnown
import Derived.Test.YtdglhonogopciaaDoorCut
import Derived.Test.YtdglhonogopciaaDoorSizedb
import Derived.Test.YtdglhonogopciaaDoorWithin
import Derived.Test.YtdglhonogopciaaDoorRef4R
import Derived.Test.YtdglhonogopciaaDoorShaRef
namespace Go.Proofs.YtdglhonogopciaaDoor
open Go.RowKit

theorem ptBytes_len (p : Int) (m : Mk) (hh : m.head.length = 32) (hl : (m.state.length : Int) ≤ 128 * p - 94) : ((ptBytes p.toNat m).length : Int) = 128 * p := by
  unfold ptBytes
  rw [ptImg_length _ _ _ _ _ _ _ _ hh (sha_length _)]
  simp
  omega
theorem cut_b (n : Nat) (a : Option Addr) (len cap : Nat) (w : World) (h1 : len ≤ cap) (hn : n ≤ 1000000000000) :
    Calls Tryd.prog 15 #[.slice a len cap, .int .i64 (n : Int)] w fun e w' => e = .returned (.slice a (min len n) cap) ∧ Below w.heap.size w w' :=
  (cut_any n a len cap w h1 hn).mono fun e w' ⟨h1, h2⟩ => ⟨h1, by rw [← h2]; exact Below.refl _ _⟩
theorem ptells_enc (sz p g : Int) (hp : isPlan sz p g) (m : Mk) (hr : m.right g) (hl : (m.state.length : Int) ≤ 128 * p - 94) :
    ∃ (Y : List UInt8) (LB : Nat), Y.length = LB ∧ (LB : Int) = 128 * p ∧ ∀ (ah al : Option Addr) (lh ch lt ct : Nat) (w : World), Bs w ah lh ch m.head → Bs w al lt ct m.state →
      Calls Tryd.prog 11 #[.agg #[.int .i64 sz, .int .i64 p, .int .i64 g], .agg #[.int .u64 (m.gen : Int), .int .u64 (m.seq : Int), .int .i64 m.seg, .slice ah lh ch, .slice al lt ct]] w fun e w' => ∃ gb cB, e = .returned (.tuple #[.slice (some ⟨gb, 0, none⟩) LB cB, .int .i64 0]) ∧ w.heap.size ≤ gb ∧ Row w' gb cB Y ∧ Below w.heap.size w w' := by
  have hbd := hp.bd
  have hYl := ptBytes_len p m hr.2.2.2.2.2 hl
  refine ⟨ptBytes p.toNat m, (ptBytes p.toNat m).length, rfl, hYl, fun ah al lh ch lt ct w hH hT => ?_⟩
  refine (rpenc_ok sz p g m ah al lh ch lt ct w hp hH hT hr (by rw [← hT.1]; exact hl)).mono ?_
  rintro e w' ⟨v, rfl, ho, hb⟩
  rcases ho.parts with ⟨_, h2⟩ | ⟨gb, cB, h1, h2, h3⟩
  · rw [h2] at hYl; simp at hYl; omega
  · exact ⟨gb, cB, by rw [h1], h2, h3, hb⟩
set_option maxHeartbeats 1000000 in
set_option maxRecDepth 100000 in
theorem ptells_any (n : Int) (gen sq : Nat) (sg : Int) (ha : Option Addr) (hl hc : Nat) (hs : List UInt8) (sa : Option Addr) (sl sc : Nat) (ss : List UInt8) (ba : Option Addr) (bl bc : Nat) (bs : List UInt8) (at_ : Int) (t : UInt8) (w : World) (hgb : gen < 18446744073709551616) (hsb : sq < 18446744073709551616) (hHB : Bs w ha hl hc hs) (hSB : Bs w sa sl sc ss) (hDB : Bs w ba bl bc bs) :
    Calls Tryd.prog 5 #[.int .i64 n, .agg #[.int .u64 (gen : Int), .int .u64 (sq : Int), .int .i64 sg, .slice ha hl hc, .slice sa sl sc], .slice ba bl bc, .int .i64 at_, .int .u8 (t.toNat : Int)] w fun e w' => e = .returned (.bool true) ∧ Below w.heap.size w w' := by
  have HPA := Lib.hid (fun w => plan_any n w)
  have hpl := ptPlan n
  have hbd := ptSz_bd n
  generalize ptSz n = sz at *
  generalize seg sz = g at *
  have hp1 : 16 ≤ sz / 4 ∧ sz / 4 ≤ 66 := by omega
  generalize sz / 4 = p at *
  have hg := hpl.bd
  clear hbd
  have HPL := Lib.hid hpl
  have HP1 := Lib.hid hp1
  obtain ⟨G0, hG0⟩ : ∃ G0, G0 = gen % 1099511627776 := ⟨_, rfl⟩
  obtain ⟨Q, hQ⟩ : ∃ Q, Q = sq % 1099511627776 := ⟨_, rfl⟩
  have t1 : (gen : Int) % 1099511627776 = (G0 : Int) := by omega
  have t1' : (gen : Int).tmod 1099511627776 = (G0 : Int) := by rw [Int.tmod_eq_emod_of_nonneg (by omega)]; exact t1
  obtain ⟨G, hG⟩ : ∃ G, G = G0 + 1 := ⟨_, rfl⟩
  have t2 : IntKind.u64.wrap (1 + (G0 : Int)) = (G : Int) := by rw [IntKind.wrap_u64]; omega
  have t3 : (sq : Int) % 1099511627776 = (Q : Int) := by omega
  have t3' : (sq : Int).tmod 1099511627776 = (Q : Int) := by rw [Int.tmod_eq_emod_of_nonneg (by omega)]; exact t3
  have HGQ := Lib.hid (show 1 ≤ G ∧ G ≤ 1099511627776 ∧ Q < 1099511627776 by omega)
  clear hG0 hQ hG hpl hp1
  have hH5 : hl = 0 ∨ ∃ ad, ha = some ad ∧ ad.block < w.heap.size := by
    rcases hHB.2.2.2 with h | ⟨b, off, h1, h2, _⟩
    · exact .inl h
    · exact .inr ⟨_, h1, h2⟩
  have hS5 : sl = 0 ∨ ∃ ad, sa = some ad ∧ ad.block < w.heap.size := by
    rcases hSB.2.2.2 with h | ⟨b, off, h1, h2, _⟩
    · exact .inl h
    · exact .inr ⟨_, h1, h2⟩
  have hMB := heap_alloc_new w (.cells #[.int .u64 (gen : Int), .int .u64 (sq : Int), .int .i64 sg, .slice ha hl hc, .slice sa sl sc] 25)
  replace hHB := hHB.alloc (.cells #[.int .u64 (gen : Int), .int .u64 (sq : Int), .int .i64 sg, .slice ha hl hc, .slice sa sl sc] 25)
  replace hSB := hSB.alloc (.cells #[.int .u64 (gen : Int), .int .u64 (sq : Int), .int .i64 sg, .slice ha hl hc, .slice sa sl sc] 25)
  have hD5 : bl = 0 ∨ ∃ ad, ba = some ad ∧ ad.block < w.heap.size := by
    rcases hDB.2.2.2 with h | ⟨b, off, h1, h2, _⟩
    · exact .inl h
    · exact .inr ⟨_, h1, h2⟩
  replace hDB := hDB.alloc (.cells #[.int .u64 (gen : Int), .int .u64 (sq : Int), .int .i64 sg, .slice ha hl hc, .slice sa sl sc] 25)
  have hE := (Ext.refl w).alloc (.cells #[.int .u64 (gen : Int), .int .u64 (sq : Int), .int .i64 sg, .slice ha hl hc, .slice sa sl sc] 25)
  obtain ⟨H, hH⟩ : ∃ H, H = w.heap.size := ⟨_, rfl⟩
  rw [← hH] at hE hMB hH5 hS5 hD5 ⊢
  have HS5 := Lib.hid (And.intro hH5 (And.intro hS5 hD5))
  clear hH5 hS5 hD5
  have HH := Lib.hid hH
  have HW := Lib.hid (And.intro hE (And.intro hMB (And.intro hHB (And.intro hSB hDB))))
  clear hE hMB hHB hSB hDB hH
  go_enter Tryd.func5, Tryd.ntmps5
  go_wp2_with fail
  rw [← HH.out]
  obtain ⟨hE, hMB, hHB, hSB, hDB⟩ := HW.out
  clear HW
  generalize w.alloc (.cells #[.int .u64 (gen : Int), .int .u64 (sq : Int), .int .i64 sg, .slice ha hl hc, .slice sa sl sc] 25) = w0 at *
  refine (HPA.out _).mono ?_
  rintro e w1 ⟨rfl, hb⟩
  replace hE := hE.step hb
  replace hMB : AtK w1 H (.cells #[.int .u64 (gen : Int), .int .u64 (sq : Int), .int .i64 sg, .slice ha hl hc, .slice sa sl sc] 25 (0, 0)) := (hb.block H (lt_of_heap hMB)).trans hMB
  replace hHB := hHB.below hb
  replace hSB := hSB.below hb
  replace hDB := hDB.below hb
  have hMl : H < w1.heap.size := lt_of_heap hMB
  clear hb HPA
  have hP : AtK ((w1.alloc (.cells #[.int .i64 sz, .int .i64 p, .int .i64 g] 31)).alloc (.cells #[.int .i64 sz, .int .i64 p, .int .i64 g] 32)) w1.heap.size (.cells #[.int .i64 sz, .int .i64 p, .int .i64 g] 31 (0, 0)) := (Below.heap_alloc (w1.alloc (.cells #[.int .i64 sz, .int .i64 p, .int .i64 g] 31)) _ w1.heap.size (by simp)).trans (heap_alloc_new w1 _)
  have hQ : AtK ((w1.alloc (.cells #[.int .i64 sz, .int .i64 p, .int .i64 g] 31)).alloc (.cells #[.int .i64 sz, .int .i64 p, .int .i64 g] 32)) (w1.heap.size + 1) (.cells #[.int .i64 sz, .int .i64 p, .int .i64 g] 32 (0, 0)) := by
    have := heap_alloc_new (w1.alloc (.cells #[.int .i64 sz, .int .i64 p, .int .i64 g] 31)) (.cells #[.int .i64 sz, .int .i64 p, .int .i64 g] 32)
    rw [World.size_alloc] at this
    exact this
  have hbA := ((Below.refl w1.heap.size w1).alloc (Nat.le_refl _) (.cells #[.int .i64 sz, .int .i64 p, .int .i64 g] 31)).alloc (by simp) (.cells #[.int .i64 sz, .int .i64 p, .int .i64 g] 32)
  replace hE := hE.step hbA
  replace hMB := hMB.below hbA
  replace hHB := hHB.below hbA
  replace hSB := hSB.below hbA
  replace hDB := hDB.below hbA
  have m0 := cells_at hMB 0
  have m1 := cells_at hMB 1
  have m2 := cells_at hMB 2
  have m3 := cells_at hMB 3
  have m4 := cells_at hMB 4
  simp only [List.getElem?_toArray, List.getElem?_cons_zero, List.getElem?_cons_succ] at m0 m1 m2 m3 m4
  have f0 := frozen_at hMB 0
  have f1 := frozen_at hMB 1
  have f2 := frozen_at hMB 2
  have f3 := frozen_at hMB 3
  have f4 := frozen_at hMB 4
  go_wp2_with fail
  generalize ((w1.alloc (.cells #[.int .i64 sz, .int .i64 p, .int .i64 g] 31)).alloc (.cells #[.int .i64 sz, .int .i64 p, .int .i64 g] 32)) = w2 at *
  obtain ⟨P, hPe⟩ : ∃ P, P = w1.heap.size := ⟨_, rfl⟩
  rw [← hPe] at hP hQ hMl ⊢
  clear hPe hbA
  refine (cut_any 1000 sa sl sc w2 hSB.2.1 (by omega)).mono ?_
  rintro e w3 ⟨rfl, rfl⟩
  obtain ⟨lt, hlt⟩ : ∃ lt, lt = min sl 1000 := ⟨_, rfl⟩
  have hTB := hSB.take (k := min sl 1000) (Nat.min_le_left _ _)
  rw [← hlt] at hTB ⊢
  have hlt2 : lt ≤ 1000 := by omega
  have hlt3 : lt ≤ sl := by omega
  generalize ss.take lt = T at *
  clear hlt hSB
  have hS6 : lt = 0 ∨ ∃ ad, sa = some ad ∧ ad.block < H := HS5.out.2.1.imp (fun h => by omega) id
  go_upto_region 3 with fail
  have hc3 : Chg (fun k => k = H) w2 (w2.setCell ⟨H, 4, none⟩ (.slice sa lt sc)) := (Chg.refl (fun k => k = H) w2).setCell (p := ⟨H, 4, none⟩) (fun _ => rfl) _
  replace hMB : AtK (w2.setCell ⟨H, 4, none⟩ (.slice sa lt sc)) H (.cells #[.int .u64 (gen : Int), .int .u64 (sq : Int), .int .i64 sg, .slice ha hl hc, .slice sa lt sc] 25 (0, 0)) := cells_set hMB
  replace hE := hE.to (hc3.below hE.2 (fun _ _ h => by omega))
  replace hP : AtK (w2.setCell ⟨H, 4, none⟩ (.slice sa lt sc)) P (.cells #[.int .i64 sz, .int .i64 p, .int .i64 g] 31 (0, 0)) := (hc3.block P (lt_of_heap hP) (by omega)).trans hP
  replace hQ : AtK (w2.setCell ⟨H, 4, none⟩ (.slice sa lt sc)) (P + 1) (.cells #[.int .i64 sz, .int .i64 p, .int .i64 g] 32 (0, 0)) := (hc3.block (P + 1) (lt_of_heap hQ) (by omega)).trans hQ
  replace hHB := bs_chg hc3 hHB HS5.out.1
  replace hDB := bs_chg hc3 hDB HS5.out.2.2
  replace hTB := bs_chg hc3 hTB hS6
  generalize w2.setCell ⟨H, 4, none⟩ (.slice sa lt sc) = w3 at *
  clear hc3 m0 m1 m2 m3 m4 f0 f1 f2 f3 f4
  have m0 := cells_at hMB 0
  have m1 := cells_at hMB 1
  have m2 := cells_at hMB 2
  have m3 := cells_at hMB 3
  have m4 := cells_at hMB 4
  simp only [List.getElem?_toArray, List.getElem?_cons_zero, List.getElem?_cons_succ] at m0 m1 m2 m3 m4
  have hb4 := (Below.refl w3.heap.size w3).alloc (Nat.le_refl _) (.cells #[.int .u64 (gen : Int), .int .u64 (sq : Int), .int .i64 sg, .slice ha hl hc, .slice sa lt sc] 25)
  have hX : AtK (w3.alloc (.cells #[.int .u64 (gen : Int), .int .u64 (sq : Int), .int .i64 sg, .slice ha hl hc, .slice sa lt sc] 25)) w3.heap.size (.cells #[.int .u64 (gen : Int), .int .u64 (sq : Int), .int .i64 sg, .slice ha hl hc, .slice sa lt sc] 25 (0, 0)) := heap_alloc_new w3 _
  go_upto_region 4 with fail
  have hPX : P + 1 < w3.heap.size := lt_of_heap hQ
  replace hE := hE.step hb4
  replace hMB := hMB.below hb4
  replace hP := hP.below hb4
  replace hQ := hQ.below hb4
  replace hHB := hHB.below hb4
  replace hDB := hDB.below hb4
  replace hTB := hTB.below hb4
  generalize w3.alloc (.cells #[.int .u64 (gen : Int), .int .u64 (sq : Int), .int .i64 sg, .slice ha hl hc, .slice sa lt sc] 25) = w4 at *
  obtain ⟨X, hXe⟩ : ∃ X, X = w3.heap.size := ⟨_, rfl⟩
  rw [← hXe] at hX hPX ⊢
  clear hXe hb4 m0 m1 m2 m3 m4
  have m0 := cells_at hMB 0
  have m1 := cells_at hMB 1
  have m2 := cells_at hMB 2
  have m3 := cells_at hMB 3
  have m4 := cells_at hMB 4
  simp only [List.getElem?_toArray, List.getElem?_cons_zero, List.getElem?_cons_succ] at m0 m1 m2 m3 m4
  have x0 := cells_at hX 0
  have x1 := cells_at hX 1
  have x2 := cells_at hX 2
  have x3 := cells_at hX 3
  have x4 := cells_at hX 4
  simp only [List.getElem?_toArray, List.getElem?_cons_zero, List.getElem?_cons_succ] at x0 x1 x2 x3 x4
  have f0 := frozen_at hX 0
  have f1 := frozen_at hX 1
  have f2 := frozen_at hX 2
  have f3 := frozen_at hX 3
  have f4 := frozen_at hX 4
  go_upto_region 6 with fail
  have HX5 := Lib.hid (show (hl = 0 ∨ ∃ ad, ha = some ad ∧ ad.block < X) ∧ (lt = 0 ∨ ∃ ad, sa = some ad ∧ ad.block < X) ∧ (bl = 0 ∨ ∃ ad, ba = some ad ∧ ad.block < X) from ⟨HS5.out.1.imp id (fun ⟨ad, h1, h2⟩ => ⟨ad, h1, by omega⟩), hS6.imp id (fun ⟨ad, h1, h2⟩ => ⟨ad, h1, by omega⟩), HS5.out.2.2.imp id (fun ⟨ad, h1, h2⟩ => ⟨ad, h1, by omega⟩)⟩)
  have hcg : Chg (fun k => k = X) w4 ((w4.setCell ⟨X, 0, none⟩ (.int .u64 (G : Int))).setCell ⟨X, 1, none⟩ (.int .u64 (Q : Int))) := (((Chg.refl (fun k => k = X) w4).setCell (p := ⟨X, 0, none⟩) (fun _ => rfl) _).setCell (p := ⟨X, 1, none⟩) (fun _ => rfl) _)
  replace hX : AtK ((w4.setCell ⟨X, 0, none⟩ (.int .u64 (G : Int))).setCell ⟨X, 1, none⟩ (.int .u64 (Q : Int))) X (.cells #[.int .u64 (G : Int), .int .u64 (Q : Int), .int .i64 sg, .slice ha hl hc, .slice sa lt sc] 25 (0, 0)) := cells_set (cells_set (hX))
  replace hMB : AtK ((w4.setCell ⟨X, 0, none⟩ (.int .u64 (G : Int))).setCell ⟨X, 1, none⟩ (.int .u64 (Q : Int))) H _ := (hcg.block H (lt_of_heap hMB) (by omega)).trans hMB
  replace hP : AtK ((w4.setCell ⟨X, 0, none⟩ (.int .u64 (G : Int))).setCell ⟨X, 1, none⟩ (.int .u64 (Q : Int))) P _ := (hcg.block P (lt_of_heap hP) (by omega)).trans hP
  replace hQ : AtK ((w4.setCell ⟨X, 0, none⟩ (.int .u64 (G : Int))).setCell ⟨X, 1, none⟩ (.int .u64 (Q : Int))) (P + 1) _ := (hcg.block (P + 1) (lt_of_heap hQ) (by omega)).trans hQ
  replace hE := hE.to (hcg.below hE.2 (fun _ _ h => by omega))
  replace hHB := bs_chg hcg hHB HX5.out.1
  replace hDB := bs_chg hcg hDB HX5.out.2.2
  replace hTB := bs_chg hcg hTB HX5.out.2.1
  generalize (w4.setCell ⟨X, 0, none⟩ (.int .u64 (G : Int))).setCell ⟨X, 1, none⟩ (.int .u64 (Q : Int)) = w5 at *
  clear hcg m0 m1 m2 m3 m4 x0 x1 x2 x3 x4 f0 f1 f2 f3 f4
  clear t1 t1' t2 t3 t3' hS6
  have m0 := cells_at hMB 0
  have m1 := cells_at hMB 1
  have m2 := cells_at hMB 2
  have m3 := cells_at hMB 3
  have m4 := cells_at hMB 4
  simp only [List.getElem?_toArray, List.getElem?_cons_zero, List.getElem?_cons_succ] at m0 m1 m2 m3 m4
  have x0 := cells_at hX 0
  have x1 := cells_at hX 1
  have x2 := cells_at hX 2
  have x3 := cells_at hX 3
  have x4 := cells_at hX 4
  simp only [List.getElem?_toArray, List.getElem?_cons_zero, List.getElem?_cons_succ] at x0 x1 x2 x3 x4
  have f0 := frozen_at hX 0
  have f1 := frozen_at hX 1
  have f2 := frozen_at hX 2
  have f3 := frozen_at hX 3
  have f4 := frozen_at hX 4
  have p0 := cells_at hP 0
  have p1 := cells_at hP 1
  have p2 := cells_at hP 2
  simp only [List.getElem?_toArray, List.getElem?_cons_zero, List.getElem?_cons_succ] at p0 p1 p2
  have hwb := within_bd sg 0 g (by omega)
  go_wp2_with fail
  refine (within_any sg 0 g w5 (by omega) (by omega) (by omega)).mono ?_
  rintro e w6 ⟨rfl, rfl⟩
  generalize within sg 0 g = SI at *
  obtain ⟨SN, rfl⟩ : ∃ SN : Nat, SI = (SN : Int) := ⟨SI.toNat, by omega⟩
  go_upto_region 7 with fail
  have hcg : Chg (fun k => k = X) w5 (w5.setCell ⟨X, 2, none⟩ (.int .i64 (SN : Int))) := ((Chg.refl (fun k => k = X) w5).setCell (p := ⟨X, 2, none⟩) (fun _ => rfl) _)
  replace hX : AtK (w5.setCell ⟨X, 2, none⟩ (.int .i64 (SN : Int))) X (.cells #[.int .u64 (G : Int), .int .u64 (Q : Int), .int .i64 (SN : Int), .slice ha hl hc, .slice sa lt sc] 25 (0, 0)) := cells_set (hX)
  replace hMB : AtK (w5.setCell ⟨X, 2, none⟩ (.int .i64 (SN : Int))) H _ := (hcg.block H (lt_of_heap hMB) (by omega)).trans hMB
  replace hP : AtK (w5.setCell ⟨X, 2, none⟩ (.int .i64 (SN : Int))) P _ := (hcg.block P (lt_of_heap hP) (by omega)).trans hP
  replace hQ : AtK (w5.setCell ⟨X, 2, none⟩ (.int .i64 (SN : Int))) (P + 1) _ := (hcg.block (P + 1) (lt_of_heap hQ) (by omega)).trans hQ
  replace hE := hE.to (hcg.below hE.2 (fun _ _ h => by omega))
  replace hHB := bs_chg hcg hHB HX5.out.1
  replace hDB := bs_chg hcg hDB HX5.out.2.2
  replace hTB := bs_chg hcg hTB HX5.out.2.1
  generalize w5.setCell ⟨X, 2, none⟩ (.int .i64 (SN : Int)) = w6 at *
  clear hcg m0 m1 m2 m3 m4 x0 x1 x2 x3 x4 f0 f1 f2 f3 f4
  clear p0 p1 p2
  have m0 := cells_at hMB 0
  have m1 := cells_at hMB 1
  have m2 := cells_at hMB 2
  have m3 := cells_at hMB 3
  have m4 := cells_at hMB 4
  simp only [List.getElem?_toArray, List.getElem?_cons_zero, List.getElem?_cons_succ] at m0 m1 m2 m3 m4
  have x0 := cells_at hX 0
  have x1 := cells_at hX 1
  have x2 := cells_at hX 2
  have x3 := cells_at hX 3
  have x4 := cells_at hX 4
  simp only [List.getElem?_toArray, List.getElem?_cons_zero, List.getElem?_cons_succ] at x0 x1 x2 x3 x4
  have f0 := frozen_at hX 0
  have f1 := frozen_at hX 1
  have f2 := frozen_at hX 2
  have f3 := frozen_at hX 3
  have f4 := frozen_at hX 4
  go_wp2_with fail
  refine (sized_any 32 ha hl hc hs w6 hHB (by omega)).mono ?_
  rintro e w7 ⟨v, rfl, ho, hb⟩
  have hHl : (sizedOf 32 hs).length = 32 := sizedOf_length 32 hs
  generalize sizedOf 32 hs = HD at *
  obtain ⟨ah, ch, rfl, hHD⟩ := ho.bsn (n := 32) hHl
  have hX6 : X < w6.heap.size := lt_of_heap hX
  have hXa : ∀ ad, ah = some ad → ad.block ≠ X := fun ad had => by have := ho.blk ad.block (by rw [had]; rfl); omega
  replace hE := hE.step hb
  replace hMB := hMB.below hb
  replace hX := hX.below hb
  replace hP := hP.below hb
  replace hQ := hQ.below hb
  replace hHB := hHB.below hb
  replace hDB := hDB.below hb
  replace hTB := hTB.below hb
  clear ho hb m0 m1 m2 m3 m4 x0 x1 x2 x3 x4 f0 f1 f2 f3 f4 hX6
  have m0 := cells_at hMB 0
  have m1 := cells_at hMB 1
  have m2 := cells_at hMB 2
  have m3 := cells_at hMB 3
  have m4 := cells_at hMB 4
  simp only [List.getElem?_toArray, List.getElem?_cons_zero, List.getElem?_cons_succ] at m0 m1 m2 m3 m4
  have x0 := cells_at hX 0
  have x1 := cells_at hX 1
  have x2 := cells_at hX 2
  have x3 := cells_at hX 3
  have x4 := cells_at hX 4
  simp only [List.getElem?_toArray, List.getElem?_cons_zero, List.getElem?_cons_succ] at x0 x1 x2 x3 x4
  have f0 := frozen_at hX 0
  have f1 := frozen_at hX 1
  have f2 := frozen_at hX 2
  have f3 := frozen_at hX 3
  have f4 := frozen_at hX 4
  go_upto_region 8 with fail
  have hcg : Chg (fun k => k = X) w7 (w7.setCell ⟨X, 3, none⟩ (.slice ah 32 ch)) := ((Chg.refl (fun k => k = X) w7).setCell (p := ⟨X, 3, none⟩) (fun _ => rfl) _)
  replace hX : AtK (w7.setCell ⟨X, 3, none⟩ (.slice ah 32 ch)) X (.cells #[.int .u64 (G : Int), .int .u64 (Q : Int), .int .i64 (SN : Int), .slice ah 32 ch, .slice sa lt sc] 25 (0, 0)) := cells_set (hX)
  replace hMB : AtK (w7.setCell ⟨X, 3, none⟩ (.slice ah 32 ch)) H _ := (hcg.block H (lt_of_heap hMB) (by omega)).trans hMB
  replace hP : AtK (w7.setCell ⟨X, 3, none⟩ (.slice ah 32 ch)) P _ := (hcg.block P (lt_of_heap hP) (by omega)).trans hP
  replace hQ : AtK (w7.setCell ⟨X, 3, none⟩ (.slice ah 32 ch)) (P + 1) _ := (hcg.block (P + 1) (lt_of_heap hQ) (by omega)).trans hQ
  replace hE := hE.to (hcg.below hE.2 (fun _ _ h => by omega))
  replace hHB := bs_chg hcg hHB HX5.out.1
  replace hDB := bs_chg hcg hDB HX5.out.2.2
  replace hTB := bs_chg hcg hTB HX5.out.2.1
  replace hHD := Chg.bs hcg hHD (fun ad had => hXa ad had)
  generalize w7.setCell ⟨X, 3, none⟩ (.slice ah 32 ch) = w8 at *
  clear hcg m0 m1 m2 m3 m4 x0 x1 x2 x3 x4 f0 f1 f2 f3 f4
  have hr : Mk.right ⟨G, Q, (SN : Int), HD, T⟩ g := ⟨HGQ.out.1, HGQ.out.2.1, by show Q ≤ 1099511627776; have := HGQ.out; omega, by show (0 : Int) ≤ (SN : Int); omega, hwb.2, hHl⟩
  obtain ⟨Y, LB, hYL, hLBp, hEN⟩ := ptells_enc sz p g HPL.out ⟨G, Q, (SN : Int), HD, T⟩ hr (by show ((T.length : Nat) : Int) ≤ _; rw [hTB.1]; omega)
  have HEN := Lib.hid hEN
  have HYL := Lib.hid (And.intro hYL hLBp)
  have hLB6 : LB ≤ 1000000 := by have := HP1.out; omega
  have HPL2 := Lib.hid hMl
  clear hEN hr hYL hLBp hXa hMl
  obtain ⟨wd, hwd⟩ : ∃ wd, wd = w8.drew := ⟨_, rfl⟩
  have hb : Below w8.heap.size w8 wd := by rw [hwd]; exact (Below.refl _ _).drew
  have hHB := hHB.below hb
  have hDB := hDB.below hb
  have hTB := hTB.below hb
  have hHD := hHD.below hb
  have hP := hP.below hb
  have hQ := hQ.below hb
  have hMB := hMB.below hb
  have hX := hX.below hb
  have hE := hE.step hb
  clear hb
  refine held_start (by kernel_rfl) (fun hHeld => ?_)
  rw [← hwd] at hHeld ⊢
  clear hwd
  refine held_take (i := 0) (v := ?_) 46 rfl (by kernel_rfl) (by kernel_rfl) (by kernel_rfl) (fun _ _ _ h => h) rfl (by assumption) (Or.inl ⟨by rfl, ?_⟩) ?_
  rotate_left
  · intro w hSw; have q0 := cells_at (hQ.below hSw) 0; have q1 := cells_at (hQ.below hSw) 1; have q2 := cells_at (hQ.below hSw) 2; simp only [List.getElem?_toArray, List.getElem?_cons_zero, List.getElem?_cons_succ] at q0 q1 q2; go_simp; (try with_reducible rfl)
  simp only [List.set_cons_zero, List.set_cons_succ]
  refine held_take (i := 1) (v := ?_) 47 rfl (by kernel_rfl) (by kernel_rfl) (by kernel_rfl) (fun _ _ _ h => h) rfl (by assumption) (Or.inl ⟨by rfl, ?_⟩) ?_
  rotate_left
  · intro w hSw; have x0 := cells_at (hX.below hSw) 0; have x1 := cells_at (hX.below hSw) 1; have x2 := cells_at (hX.below hSw) 2; have x3 := cells_at (hX.below hSw) 3; have x4 := cells_at (hX.below hSw) 4; simp only [List.getElem?_toArray, List.getElem?_cons_zero, List.getElem?_cons_succ] at x0 x1 x2 x3 x4; go_simp; (try with_reducible rfl)
  simp only [List.set_cons_zero, List.set_cons_succ]
  refine wpAnyH_ready (rs := [2]) (by kernel_rfl) (by simp) ?_
  refine (AllReadyH.cons rfl (fun K hK => ?_) AllReadyH.nil)
  go_simp
  refine (lin_any _ _ _ _ _ _ _ _ _ _).mono ?_
  rintro e w1x ⟨rfl, hb⟩
  have hbt := HB.trans hHeld hb
  have hHB := hHB.below hbt
  have hDB := hDB.below hbt
  have hTB := hTB.below hbt
  have hHD := hHD.below hbt
  have hP := hP.below hbt
  have hQ := hQ.below hbt
  have hMB := hMB.below hbt
  have hX := hX.below hbt
  have hE := hE.step hbt
  go_wp2_with fail
  refine hK.out _ _ hbt (fun _ => held_next hbt (fun hHeld2 => ?_))
  clear hK hHeld hb hbt K
  have hHeld := hHeld2
  clear hHeld2
  refine wpAnyH_ready (rs := [3]) (by kernel_rfl) (by simp) ?_
  refine (AllReadyH.cons rfl (fun K hK => ?_) AllReadyH.nil)
  go_simp
  refine (HEN.out _ _ _ _ _ _ _ (hHD.below hHeld) (hTB.below hHeld)).mono ?_
  rintro e w2x ⟨gb, cB, rfl, hgb, hRow, hb⟩; have hXs := lt_of_heap hX
  have hbt := HB.trans hHeld hb
  have hHB := hHB.below hbt
  have hDB := hDB.below hbt
  have hTB := hTB.below hbt
  have hHD := hHD.below hbt
  have hP := hP.below hbt
  have hQ := hQ.below hbt
  have hMB := hMB.below hbt
  have hX := hX.below hbt
  have hE := hE.step hbt
  go_wp2_with fail
  refine hK.out _ _ hbt (fun _ => held_next hbt (fun hHeld2 => ?_))
  clear hK hHeld hb hbt K
  have hHeld := hHeld2
  clear hHeld2
  refine held_take (i := 4) (v := ?_) 45 rfl (by kernel_rfl) (by kernel_rfl) (by kernel_rfl) (fun _ _ _ h => h) rfl (by assumption) (Or.inl ⟨by rfl, ?_⟩) ?_
  rotate_left
  · intro w hSw; go_simp; (try with_reducible rfl)
  simp only [List.set_cons_zero, List.set_cons_succ]
  refine held_take (i := 5) (v := ?_) 50 rfl (by kernel_rfl) (by kernel_rfl) (by kernel_rfl) (fun _ _ _ h => h) rfl (by assumption) (Or.inl ⟨by rfl, ?_⟩) ?_
  rotate_left
  · intro w hSw; go_simp; (try with_reducible rfl)
  simp only [List.set_cons_zero, List.set_cons_succ]
  refine held_take (i := 6) (v := ?_) 51 rfl (by kernel_rfl) (by kernel_rfl) (by kernel_rfl) (fun _ _ _ h => h) rfl (by assumption) (Or.inl ⟨by rfl, ?_⟩) ?_
  rotate_left
  · intro w hSw; go_simp; (try with_reducible rfl)
  simp only [List.set_cons_zero, List.set_cons_succ]
  refine held_take (i := 7) (v := ?_) 14 rfl (by kernel_rfl) (by kernel_rfl) (by kernel_rfl) (fun _ _ _ h => h) rfl (by assumption) (Or.inl ⟨by rfl, ?_⟩) ?_
  rotate_left
  · intro w hSw; go_simp; (try with_reducible rfl)
  simp only [List.set_cons_zero, List.set_cons_succ]
  refine held_take (i := 8) (v := ?_) 15 rfl (by kernel_rfl) (by kernel_rfl) (by kernel_rfl) (fun _ _ _ h => h) rfl (by assumption) (Or.inl ⟨by rfl, ?_⟩) ?_
  rotate_left
  · intro w hSw; go_simp; (try with_reducible rfl)
  simp only [List.set_cons_zero, List.set_cons_succ]
  refine wpAnyH_done (by kernel_rfl) ?_ _
  have hgX : X < gb := by omega
  have hBB := hRow.bs
  rw [HYL.out.1] at hBB
  have HGX := Lib.hid (And.intro hgX hPX)
  clear hXs hgb hgX hHeld
  go_upto_region 9 with fail
  obtain ⟨wd, hwd⟩ : ∃ wd, wd = w2x.drew := ⟨_, rfl⟩
  have hb : Below w2x.heap.size w2x wd := by rw [hwd]; exact (Below.refl _ _).drew
  have hHB := hHB.below hb
  have hDB := hDB.below hb
  have hTB := hTB.below hb
  have hHD := hHD.below hb
  have hP := hP.below hb
  have hQ := hQ.below hb
  have hMB := hMB.below hb
  have hX := hX.below hb
  have hRow := hRow.below hb
  have hBB := hBB.below hb
  have hE := hE.step hb
  clear hb
  refine held_start (by kernel_rfl) (fun hHeld => ?_)
  rw [← hwd] at hHeld ⊢
  clear hwd
  refine held_take (i := 0) (v := ?_) 52 rfl (by kernel_rfl) (by kernel_rfl) (by kernel_rfl) (fun _ _ _ h => h) rfl (by assumption) (Or.inl ⟨by rfl, ?_⟩) ?_
  rotate_left
  · intro w hSw; go_simp; (try with_reducible rfl)
  simp only [List.set_cons_zero, List.set_cons_succ]
  refine held_take (i := 1) (v := ?_) 53 rfl (by kernel_rfl) (by kernel_rfl) (by kernel_rfl) (fun _ _ _ h => h) rfl (by assumption) (Or.inl ⟨by rfl, ?_⟩) ?_
  rotate_left
  · intro w hSw; go_simp; (try with_reducible rfl)
  simp only [List.set_cons_zero, List.set_cons_succ]
  refine held_take (i := 2) (v := ?_) 54 rfl (by kernel_rfl) (by kernel_rfl) (by kernel_rfl) (fun _ _ _ h => h) rfl (by assumption) (Or.inl ⟨by rfl, ?_⟩) ?_
  rotate_left
  · intro w hSw; go_simp; (try with_reducible rfl)
  simp only [List.set_cons_zero, List.set_cons_succ]
  refine held_take (i := 3) (v := ?_) 55 rfl (by kernel_rfl) (by kernel_rfl) (by kernel_rfl) (fun _ _ _ h => h) rfl (by assumption) (Or.inl ⟨by rfl, ?_⟩) ?_
  rotate_left
  · intro w hSw; have p0 := cells_at (hP.below hSw) 0; have p1 := cells_at (hP.below hSw) 1; have p2 := cells_at (hP.below hSw) 2; simp only [List.getElem?_toArray, List.getElem?_cons_zero, List.getElem?_cons_succ] at p0 p1 p2; go_simp; (try with_reducible rfl)
  simp only [List.set_cons_zero, List.set_cons_succ]
  refine held_take (i := 4) (v := ?_) 56 rfl (by kernel_rfl) (by kernel_rfl) (by kernel_rfl) (fun _ _ _ h => h) rfl (by assumption) (Or.inl ⟨by rfl, ?_⟩) ?_
  rotate_left
  · intro w hSw; have q0 := cells_at (hQ.below hSw) 0; have q1 := cells_at (hQ.below hSw) 1; have q2 := cells_at (hQ.below hSw) 2; simp only [List.getElem?_toArray, List.getElem?_cons_zero, List.getElem?_cons_succ] at q0 q1 q2; go_simp; (try with_reducible rfl)
  simp only [List.set_cons_zero, List.set_cons_succ]
  refine held_take (i := 5) (v := ?_) 57 rfl (by kernel_rfl) (by kernel_rfl) (by kernel_rfl) (fun _ _ _ h => h) rfl (by assumption) (Or.inl ⟨by rfl, ?_⟩) ?_
  rotate_left
  · intro w hSw; have x0 := cells_at (hMB.below hSw) 0; have x1 := cells_at (hMB.below hSw) 1; have x2 := cells_at (hMB.below hSw) 2; have x3 := cells_at (hMB.below hSw) 3; have x4 := cells_at (hMB.below hSw) 4; simp only [List.getElem?_toArray, List.getElem?_cons_zero, List.getElem?_cons_succ] at x0 x1 x2 x3 x4; go_simp; (try with_reducible rfl)
  simp only [List.set_cons_zero, List.set_cons_succ]
  refine wpAnyH_ready (rs := [6]) (by kernel_rfl) (by simp) ?_
  refine (AllReadyH.cons rfl (fun K hK => ?_) AllReadyH.nil)
  go_simp
  refine (lsame_any sz p g ⟨gen, sq, sg, hs, T⟩ ha sa hl hc lt sc _ (hHB.below hHeld) (hTB.below hHeld)).mono ?_
  rintro e w1x ⟨rfl, hb⟩
  have hbt := HB.trans hHeld hb
  have hHB := hHB.below hbt
  have hDB := hDB.below hbt
  have hTB := hTB.below hbt
  have hHD := hHD.below hbt
  have hP := hP.below hbt
  have hQ := hQ.below hbt
  have hMB := hMB.below hbt
  have hX := hX.below hbt
  have hRow := hRow.below hbt
  have hBB := hBB.below hbt
  have hE := hE.step hbt
  go_wp2_with fail
  refine hK.out _ _ hbt (fun _ => held_next hbt (fun hHeld2 => ?_))
  clear hK hHeld hb hbt K
  have hHeld := hHeld2
  clear hHeld2
  refine held_take (i := 7) (v := ?_) 59 rfl (by kernel_rfl) (by kernel_rfl) (by kernel_rfl) (fun _ _ _ h => h) rfl (by assumption) (Or.inl ⟨by rfl, ?_⟩) ?_
  rotate_left
  · intro w hSw; go_simp; (try with_reducible rfl)
  simp only [List.set_cons_zero, List.set_cons_succ]
  refine held_take (i := 8) (v := ?_) 60 rfl (by kernel_rfl) (by kernel_rfl) (by kernel_rfl) (fun _ _ _ h => h) rfl (by assumption) (Or.inl ⟨by rfl, ?_⟩) ?_
  rotate_left
  · intro w hSw; go_simp; (try with_reducible rfl)
  simp only [List.set_cons_zero, List.set_cons_succ]
  refine held_take (i := 9) (v := ?_) 61 rfl (by kernel_rfl) (by kernel_rfl) (by kernel_rfl) (fun _ _ _ h => h) rfl (by assumption) (Or.inl ⟨by rfl, ?_⟩) ?_
  rotate_left
  · intro w hSw; go_simp; (try with_reducible rfl)
  simp only [List.set_cons_zero, List.set_cons_succ]
  refine held_take (i := 10) (v := ?_) 62 rfl (by kernel_rfl) (by kernel_rfl) (by kernel_rfl) (fun _ _ _ h => h) rfl (by assumption) (Or.inl ⟨by rfl, ?_⟩) ?_
  rotate_left
  · intro w hSw; have p0 := cells_at (hP.below hSw) 0; have p1 := cells_at (hP.below hSw) 1; have p2 := cells_at (hP.below hSw) 2; simp only [List.getElem?_toArray, List.getElem?_cons_zero, List.getElem?_cons_succ] at p0 p1 p2; go_simp; (try with_reducible rfl)
  simp only [List.set_cons_zero, List.set_cons_succ]
  refine held_take (i := 11) (v := ?_) 63 rfl (by kernel_rfl) (by kernel_rfl) (by kernel_rfl) (fun _ _ _ h => h) rfl (by assumption) (Or.inl ⟨by rfl, ?_⟩) ?_
  rotate_left
  · intro w hSw; have q0 := cells_at (hQ.below hSw) 0; have q1 := cells_at (hQ.below hSw) 1; have q2 := cells_at (hQ.below hSw) 2; simp only [List.getElem?_toArray, List.getElem?_cons_zero, List.getElem?_cons_succ] at q0 q1 q2; go_simp; (try with_reducible rfl)
  simp only [List.set_cons_zero, List.set_cons_succ]
  refine held_take (i := 12) (v := ?_) 64 rfl (by kernel_rfl) (by kernel_rfl) (by kernel_rfl) (fun _ _ _ h => h) rfl (by assumption) (Or.inl ⟨by rfl, ?_⟩) ?_
  rotate_left
  · intro w hSw; have x0 := cells_at (hX.below hSw) 0; have x1 := cells_at (hX.below hSw) 1; have x2 := cells_at (hX.below hSw) 2; have x3 := cells_at (hX.below hSw) 3; have x4 := cells_at (hX.below hSw) 4; simp only [List.getElem?_toArray, List.getElem?_cons_zero, List.getElem?_cons_succ] at x0 x1 x2 x3 x4; go_simp; (try with_reducible rfl)
  simp only [List.set_cons_zero, List.set_cons_succ]
  refine wpAnyH_ready (rs := [13]) (by kernel_rfl) (by simp) ?_
  refine (AllReadyH.cons rfl (fun K hK => ?_) AllReadyH.nil)
  go_simp
  refine (lsame_any sz p g ⟨G, Q, (SN : Int), HD, T⟩ ah sa 32 ch lt sc _ (hHD.below hHeld) (hTB.below hHeld)).mono ?_
  rintro e w2x ⟨rfl, hb⟩
  have hbt := HB.trans hHeld hb
  have hHB := hHB.below hbt
  have hDB := hDB.below hbt
  have hTB := hTB.below hbt
  have hHD := hHD.below hbt
  have hP := hP.below hbt
  have hQ := hQ.below hbt
  have hMB := hMB.below hbt
  have hX := hX.below hbt
  have hRow := hRow.below hbt
  have hBB := hBB.below hbt
  have hE := hE.step hbt
  go_wp2_with fail
  refine hK.out _ _ hbt (fun _ => held_next hbt (fun hHeld2 => ?_))
  clear hK hHeld hb hbt K
  have hHeld := hHeld2
  clear hHeld2
  refine held_take (i := 14) (v := ?_) 66 rfl (by kernel_rfl) (by kernel_rfl) (by kernel_rfl) (fun _ _ _ h => h) rfl (by assumption) (Or.inl ⟨by rfl, ?_⟩) ?_
  rotate_left
  · intro w hSw; go_simp; (try with_reducible rfl)
  simp only [List.set_cons_zero, List.set_cons_succ]
  refine held_take (i := 15) (v := ?_) 67 rfl (by kernel_rfl) (by kernel_rfl) (by kernel_rfl) (fun _ _ _ h => h) rfl (by assumption) (Or.inl ⟨by rfl, ?_⟩) ?_
  rotate_left
  · intro w hSw; go_simp; (try with_reducible rfl)
  simp only [List.set_cons_zero, List.set_cons_succ]
  refine held_take (i := 16) (v := ?_) 68 rfl (by kernel_rfl) (by kernel_rfl) (by kernel_rfl) (fun _ _ _ h => h) rfl (by assumption) (Or.inl ⟨by rfl, ?_⟩) ?_
  rotate_left
  · intro w hSw; go_simp; (try with_reducible rfl)
  simp only [List.set_cons_zero, List.set_cons_succ]
  refine held_take (i := 17) (v := ?_) 69 rfl (by kernel_rfl) (by kernel_rfl) (by kernel_rfl) (fun _ _ _ h => h) rfl (by assumption) (Or.inl ⟨by rfl, ?_⟩) ?_
  rotate_left
  · intro w hSw; have p0 := cells_at (hP.below hSw) 0; have p1 := cells_at (hP.below hSw) 1; have p2 := cells_at (hP.below hSw) 2; simp only [List.getElem?_toArray, List.getElem?_cons_zero, List.getElem?_cons_succ] at p0 p1 p2; go_simp; (try with_reducible rfl)
  simp only [List.set_cons_zero, List.set_cons_succ]
  refine held_take (i := 18) (v := ?_) 70 rfl (by kernel_rfl) (by kernel_rfl) (by kernel_rfl) (fun _ _ _ h => h) rfl (by assumption) (Or.inl ⟨by rfl, ?_⟩) ?_
  rotate_left
  · intro w hSw; have q0 := cells_at (hQ.below hSw) 0; have q1 := cells_at (hQ.below hSw) 1; have q2 := cells_at (hQ.below hSw) 2; simp only [List.getElem?_toArray, List.getElem?_cons_zero, List.getElem?_cons_succ] at q0 q1 q2; go_simp; (try with_reducible rfl)
  simp only [List.set_cons_zero, List.set_cons_succ]
  refine held_take (i := 19) (v := ?_) 71 rfl (by kernel_rfl) (by kernel_rfl) (by kernel_rfl) (fun _ _ _ h => h) rfl (by assumption) (Or.inl ⟨by rfl, ?_⟩) ?_
  rotate_left
  · intro w hSw; go_simp; (try with_reducible rfl)
  simp only [List.set_cons_zero, List.set_cons_succ]
  refine wpAnyH_ready (rs := [20]) (by kernel_rfl) (by simp) ?_
  refine (AllReadyH.cons rfl (fun K hK => ?_) AllReadyH.nil)
  go_simp
  refine (lread_any sz p g _ _ _ _ _ (hBB.below hHeld)).mono ?_
  rintro e w3x ⟨rfl, hb⟩
  have hbt := HB.trans hHeld hb
  have hHB := hHB.below hbt
  have hDB := hDB.below hbt
  have hTB := hTB.below hbt
  have hHD := hHD.below hbt
  have hP := hP.below hbt
  have hQ := hQ.below hbt
  have hMB := hMB.below hbt
  have hX := hX.below hbt
  have hRow := hRow.below hbt
  have hBB := hBB.below hbt
  have hE := hE.step hbt
  go_wp2_with fail
  refine hK.out _ _ hbt (fun _ => held_next hbt (fun hHeld2 => ?_))
  clear hK hHeld hb hbt K
  have hHeld := hHeld2
  clear hHeld2
  refine held_take (i := 21) (v := ?_) 73 rfl (by kernel_rfl) (by kernel_rfl) (by kernel_rfl) (fun _ _ _ h => h) rfl (by assumption) (Or.inl ⟨by rfl, ?_⟩) ?_
  rotate_left
  · intro w hSw; go_simp; (try with_reducible rfl)
  simp only [List.set_cons_zero, List.set_cons_succ]
  refine held_take (i := 22) (v := ?_) 74 rfl (by kernel_rfl) (by kernel_rfl) (by kernel_rfl) (fun _ _ _ h => h) rfl (by assumption) (Or.inl ⟨by rfl, ?_⟩) ?_
  rotate_left
  · intro w hSw; go_simp; (try with_reducible rfl)
  simp only [List.set_cons_zero, List.set_cons_succ]
  refine held_take (i := 23) (v := ?_) 75 rfl (by kernel_rfl) (by kernel_rfl) (by kernel_rfl) (fun _ _ _ h => h) rfl (by assumption) (Or.inl ⟨by rfl, ?_⟩) ?_
  rotate_left
  · intro w hSw; go_simp; (try with_reducible rfl)
  simp only [List.set_cons_zero, List.set_cons_succ]
  refine held_take (i := 24) (v := ?_) 76 rfl (by kernel_rfl) (by kernel_rfl) (by kernel_rfl) (fun _ _ _ h => h) rfl (by assumption) (Or.inl ⟨by rfl, ?_⟩) ?_
  rotate_left
  · intro w hSw; have p0 := cells_at (hP.below hSw) 0; have p1 := cells_at (hP.below hSw) 1; have p2 := cells_at (hP.below hSw) 2; simp only [List.getElem?_toArray, List.getElem?_cons_zero, List.getElem?_cons_succ] at p0 p1 p2; go_simp; (try with_reducible rfl)
  simp only [List.set_cons_zero, List.set_cons_succ]
  refine held_take (i := 25) (v := ?_) 77 rfl (by kernel_rfl) (by kernel_rfl) (by kernel_rfl) (fun _ _ _ h => h) rfl (by assumption) (Or.inl ⟨by rfl, ?_⟩) ?_
  rotate_left
  · intro w hSw; have q0 := cells_at (hQ.below hSw) 0; have q1 := cells_at (hQ.below hSw) 1; have q2 := cells_at (hQ.below hSw) 2; simp only [List.getElem?_toArray, List.getElem?_cons_zero, List.getElem?_cons_succ] at q0 q1 q2; go_simp; (try with_reducible rfl)
  simp only [List.set_cons_zero, List.set_cons_succ]
  refine held_take (i := 26) (v := ?_) 78 rfl (by kernel_rfl) (by kernel_rfl) (by kernel_rfl) (fun _ _ _ h => h) rfl (by assumption) (Or.inl ⟨by rfl, ?_⟩) ?_
  rotate_left
  · intro w hSw; go_simp; (try with_reducible rfl)
  simp only [List.set_cons_zero, List.set_cons_succ]
  refine held_take (i := 27) (v := ?_) 79 rfl (by kernel_rfl) (by kernel_rfl) (by kernel_rfl) (fun _ _ _ h => h) rfl (by assumption) (Or.inl ⟨by rfl, ?_⟩) ?_
  rotate_left
  · intro w hSw; go_simp; (try with_reducible rfl)
  simp only [List.set_cons_zero, List.set_cons_succ]
  refine held_take (i := 28) (v := ?_) 80 rfl (by kernel_rfl) (by kernel_rfl) (by kernel_rfl) (fun _ _ _ h => h) rfl (by assumption) (Or.inl ⟨by rfl, ?_⟩) ?_
  rotate_left
  · intro w hSw; go_simp; (try with_reducible rfl)
  simp only [List.set_cons_zero, List.set_cons_succ]
  refine wpAnyH_ready (rs := [29]) (by kernel_rfl) (by simp) ?_
  refine (AllReadyH.cons rfl (fun K hK => ?_) AllReadyH.nil)
  go_simp
  refine (sized_any LB _ _ _ bs _ (hDB.below hHeld) hLB6).mono ?_
  rintro e w4x ⟨v, rfl, ho, hb⟩
  have hbt := HB.trans hHeld hb
  have hHB := hHB.below hbt
  have hDB := hDB.below hbt
  have hTB := hTB.below hbt
  have hHD := hHD.below hbt
  have hP := hP.below hbt
  have hQ := hQ.below hbt
  have hMB := hMB.below hbt
  have hX := hX.below hbt
  have hRow := hRow.below hbt
  have hBB := hBB.below hbt
  have hE := hE.step hbt
  obtain ⟨a9, c9, rfl, hZB⟩ := ho.bsn (n := LB) (sizedOf_length LB bs)
  clear ho
  go_wp2_with fail
  refine hK.out _ _ hbt (fun _ => held_next hbt (fun hHeld2 => ?_))
  clear hK hHeld hb hbt K
  have hHeld := hHeld2
  clear hHeld2
  refine wpAnyH_ready (rs := [30]) (by kernel_rfl) (by simp) ?_
  refine (AllReadyH.cons rfl (fun K hK => ?_) AllReadyH.nil)
  go_simp
  refine (lread_any sz p g _ _ _ _ _ (hZB.below hHeld)).mono ?_
  rintro e w5x ⟨rfl, hb⟩
  have hbt := HB.trans hHeld hb
  have hHB := hHB.below hbt
  have hDB := hDB.below hbt
  have hTB := hTB.below hbt
  have hHD := hHD.below hbt
  have hP := hP.below hbt
  have hQ := hQ.below hbt
  have hMB := hMB.below hbt
  have hX := hX.below hbt
  have hRow := hRow.below hbt
  have hBB := hBB.below hbt
  have hE := hE.step hbt
  have hZB := hZB.below hbt
  go_wp2_with fail
  refine hK.out _ _ hbt (fun _ => held_next hbt (fun hHeld2 => ?_))
  clear hK hHeld hb hbt K
  have hHeld := hHeld2
  clear hHeld2
  refine held_take (i := 31) (v := ?_) 83 rfl (by kernel_rfl) (by kernel_rfl) (by kernel_rfl) (fun _ _ _ h => h) rfl (by assumption) (Or.inl ⟨by rfl, ?_⟩) ?_
  rotate_left
  · intro w hSw; go_simp; (try with_reducible rfl)
  simp only [List.set_cons_zero, List.set_cons_succ]
  refine held_take (i := 32) (v := ?_) 84 rfl (by kernel_rfl) (by kernel_rfl) (by kernel_rfl) (fun _ _ _ h => h) rfl (by assumption) (Or.inl ⟨by rfl, ?_⟩) ?_
  rotate_left
  · intro w hSw; go_simp; (try with_reducible rfl)
  simp only [List.set_cons_zero, List.set_cons_succ]
  refine held_take (i := 33) (v := ?_) 85 rfl (by kernel_rfl) (by kernel_rfl) (by kernel_rfl) (fun _ _ _ h => h) rfl (by assumption) (Or.inl ⟨by rfl, ?_⟩) ?_
  rotate_left
  · intro w hSw; go_simp; (try with_reducible rfl)
  simp only [List.set_cons_zero, List.set_cons_succ]
  refine held_take (i := 34) (v := ?_) 86 rfl (by kernel_rfl) (by kernel_rfl) (by kernel_rfl) (fun _ _ _ h => h) rfl (by assumption) (Or.inl ⟨by rfl, ?_⟩) ?_
  rotate_left
  · intro w hSw; have p0 := cells_at (hP.below hSw) 0; have p1 := cells_at (hP.below hSw) 1; have p2 := cells_at (hP.below hSw) 2; simp only [List.getElem?_toArray, List.getElem?_cons_zero, List.getElem?_cons_succ] at p0 p1 p2; go_simp; (try with_reducible rfl)
  simp only [List.set_cons_zero, List.set_cons_succ]
  refine held_take (i := 35) (v := ?_) 87 rfl (by kernel_rfl) (by kernel_rfl) (by kernel_rfl) (fun _ _ _ h => h) rfl (by assumption) (Or.inl ⟨by rfl, ?_⟩) ?_
  rotate_left
  · intro w hSw; have q0 := cells_at (hQ.below hSw) 0; have q1 := cells_at (hQ.below hSw) 1; have q2 := cells_at (hQ.below hSw) 2; simp only [List.getElem?_toArray, List.getElem?_cons_zero, List.getElem?_cons_succ] at q0 q1 q2; go_simp; (try with_reducible rfl)
  simp only [List.set_cons_zero, List.set_cons_succ]
  refine held_take (i := 36) (v := ?_) 88 rfl (by kernel_rfl) (by kernel_rfl) (by kernel_rfl) (fun _ _ _ h => h) rfl (by assumption) (Or.inl ⟨by rfl, ?_⟩) ?_
  rotate_left
  · intro w hSw; go_simp; (try with_reducible rfl)
  simp only [List.set_cons_zero, List.set_cons_succ]
  refine wpAnyH_ready (rs := [37]) (by kernel_rfl) (by simp) ?_
  refine (AllReadyH.cons rfl (fun K hK => ?_) AllReadyH.nil)
  go_simp
  refine (cut_b 100 _ _ _ _ hDB.2.1 (by omega)).mono ?_
  rintro e w6x ⟨rfl, hb⟩
  have hbt := HB.trans hHeld hb
  have hHB := hHB.below hbt
  have hDB := hDB.below hbt
  have hTB := hTB.below hbt
  have hHD := hHD.below hbt
  have hP := hP.below hbt
  have hQ := hQ.below hbt
  have hMB := hMB.below hbt
  have hX := hX.below hbt
  have hRow := hRow.below hbt
  have hBB := hBB.below hbt
  have hE := hE.step hbt
  have hZB := hZB.below hbt
  go_wp2_with fail
  refine hK.out _ _ hbt (fun _ => held_next hbt (fun hHeld2 => ?_))
  clear hK hHeld hb hbt K
  have hHeld := hHeld2
  clear hHeld2
  refine wpAnyH_ready (rs := [38]) (by kernel_rfl) (by simp) ?_
  refine (AllReadyH.cons rfl (fun K hK => ?_) AllReadyH.nil)
  go_simp
  refine (lread_any sz p g _ _ _ _ _ ((hDB.below hHeld).take (k := min bl 100) (Nat.min_le_left _ _))).mono ?_
  rintro e w7x ⟨rfl, hb⟩
  have hbt := HB.trans hHeld hb
  have hHB := hHB.below hbt
  have hDB := hDB.below hbt
  have hTB := hTB.below hbt
  have hHD := hHD.below hbt
  have hP := hP.below hbt
  have hQ := hQ.below hbt
  have hMB := hMB.below hbt
  have hX := hX.below hbt
  have hRow := hRow.below hbt
  have hBB := hBB.below hbt
  have hE := hE.step hbt
  have hZB := hZB.below hbt
  go_wp2_with fail
  refine hK.out _ _ hbt (fun _ => held_next hbt (fun hHeld2 => ?_))
  clear hK hHeld hb hbt K
  have hHeld := hHeld2
  clear hHeld2
  refine held_take (i := 39) (v := ?_) 91 rfl (by kernel_rfl) (by kernel_rfl) (by kernel_rfl) (fun _ _ _ h => h) rfl (by assumption) (Or.inl ⟨by rfl, ?_⟩) ?_
  rotate_left
  · intro w hSw; go_simp; (try with_reducible rfl)
  simp only [List.set_cons_zero, List.set_cons_succ]
  refine held_take (i := 40) (v := ?_) 92 rfl (by kernel_rfl) (by kernel_rfl) (by kernel_rfl) (fun _ _ _ h => h) rfl (by assumption) (Or.inl ⟨by rfl, ?_⟩) ?_
  rotate_left
  · intro w hSw; go_simp; (try with_reducible rfl)
  simp only [List.set_cons_zero, List.set_cons_succ]
  refine wpAnyH_done (by kernel_rfl) ?_ _
  clear hHeld hHB hDB hTB hHD hMB hX hBB hZB
  obtain ⟨LM, hLM⟩ : ∃ LM : Nat, LB = LM + 1 := ⟨LB - 1, by have h1 := HYL.out.2; have h2 := HP1.out; omega⟩
  have i2 : IntKind.i64.wrap ((LB : Int) - 1) = (LM : Int) := by rw [IntWalk.i64_in _ (by have := HP1.out; omega)]; omega
  have HLM := Lib.hid hLM
  have hLMb : (LM : Int) ≤ 1000000 := by omega
  clear hLM
  go_wp2_with fail
  refine (within_any at_ 0 LM w7x (by omega) (by omega) (by omega)).mono ?_
  rintro e w11 ⟨rfl, rfl⟩
  have hkb := within_bd at_ 0 LM (by omega)
  generalize within at_ 0 LM = kI at *
  obtain ⟨k, rfl⟩ : ∃ k : Nat, kI = (k : Int) := ⟨kI.toNat, by omega⟩
  obtain ⟨k0, k1⟩ := hkb
  have hkl : k < Y.length := by have h1 := HYL.out.1; have h2 := HLM.out; omega
  have hkL : (k : Int) < (LB : Int) := by have h2 := HLM.out; omega
  have hxc := hRow.cell k hkl
  have hxf := hRow.frozen k
  obtain ⟨x, hxe⟩ : ∃ x, x = Y[k] := ⟨_, rfl⟩
  rw [← hxe] at hxc
  have hxo := u8_xor_nat x.toNat t.toNat (UInt8.toNat_lt _) (UInt8.toNat_lt _)
  have hRow2 := hRow.set k (x ^^^ t)
  rw [UInt8.toNat_xor] at hRow2
  clear hxe
  have hcg : Chg (fun k => k = gb) w7x (w7x.setCell ⟨gb, k, none⟩ (.int .u8 ((x.toNat ^^^ t.toNat : Nat) : Int))) := (Chg.refl (fun k => k = gb) w7x).setCell (p := ⟨gb, k, none⟩) (fun _ => rfl) _
  have hHX : H < X := by have := HGX.out.2; have := HPL2.out; omega
  have hP2 : AtK (w7x.setCell ⟨gb, k, none⟩ (.int .u8 ((x.toNat ^^^ t.toNat : Nat) : Int))) P _ := (hcg.block P (lt_of_heap hP) (by have := HGX.out; omega)).trans hP
  have hQ2 : AtK (w7x.setCell ⟨gb, k, none⟩ (.int .u8 ((x.toNat ^^^ t.toNat : Nat) : Int))) (P + 1) _ := (hcg.block (P + 1) (lt_of_heap hQ) (by have := HGX.out; omega)).trans hQ
  have hE2 := hE.to (hcg.below hE.2 (fun _ _ h => by have := HGX.out; omega))
  go_upto_region 12 with fail
  generalize w7x.setCell ⟨gb, k, none⟩ (.int .u8 ((x.toNat ^^^ t.toNat : Nat) : Int)) = w12 at *
  clear hcg hP hQ hE hRow hxc hxf hxo
  have hB2 := hRow2.bs
  rw [List.length_set, HYL.out.1] at hB2
  have p0 := cells_at hP2 0
  have p1 := cells_at hP2 1
  have p2 := cells_at hP2 2
  simp only [List.getElem?_toArray, List.getElem?_cons_zero, List.getElem?_cons_succ] at p0 p1 p2
  have q0 := cells_at hQ2 0
  have q1 := cells_at hQ2 1
  have q2 := cells_at hQ2 2
  simp only [List.getElem?_toArray, List.getElem?_cons_zero, List.getElem?_cons_succ] at q0 q1 q2
  go_wp2_with fail
  refine (lread_any sz p g _ _ _ _ _ hB2).mono ?_
  rintro e w13 ⟨rfl, hb⟩
  replace hE2 := hE2.step hb
  clear hb p0 p1 p2 q0 q1 q2 hP2 hQ2 hB2 hRow2
  go_wp2_with fail
  refine (pt_known w13).mono ?_
  rintro e w14 ⟨rfl, hb⟩
  replace hE2 := hE2.step hb
  go_wp2_with fail
  go_ret
  exact ⟨rfl, hE2.1⟩
theorem PointTells_walk (v0 v1 v2 v3 v4 : Value) (w : World) (h0 : Arg Tryd.prog w 3 v0) (h1 : Arg Tryd.prog w 25 v1) (h2 : Arg Tryd.prog w 23 v2) (h3 : Arg Tryd.prog w 3 v3) (h4 : Arg Tryd.prog w 5 v4) :
    Calls Tryd.prog 5 #[v0, v1, v2, v3, v4] w fun e w' => e = .returned (.bool true) ∧ Below w.heap.size w w' := by
  obtain ⟨n, rfl, _⟩ := h0.int Tryd.underlying3
  obtain ⟨gen, sq, sg, ha, hl, hc, hs, sa, sl, sc, ss, rfl, hg, hq, hB3, hB4⟩ := h1.mark
  obtain ⟨ba, bl, bc, bs, rfl, hDB⟩ := h2.bytes Tryd.underlying23 Tryd.underlying5 (by kernel_rfl)
  obtain ⟨a, rfl, _⟩ := h3.int Tryd.underlying3
  obtain ⟨b, rfl, wb⟩ := h4.int Tryd.underlying5
  rw [← byteOf_toNat wb]
  exact ptells_any n gen sq sg ha hl hc hs sa sl sc ss ba bl bc bs a (byteOf b) w hg hq hB3 hB4 hDB
end Go.Proofs.YtdglhonogopciaaDoor
