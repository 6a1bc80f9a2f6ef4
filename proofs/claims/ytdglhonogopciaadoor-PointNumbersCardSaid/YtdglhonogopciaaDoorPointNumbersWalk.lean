/- The walk of PointNumbers. -/
import Derived.Test.YtdglhonogopciaaDoorPtSides
import Derived.Test.YtdglhonogopciaaDoorPtPlan
import Derived.Test.YtdglhonogopciaaDoorPtKnown
import Derived.Test.YtdglhonogopciaaDoorPtRoom
import Derived.Deep.CutBlock
import Derived.Deep.DeepCutAuto
import Derived.Lib.SmallJoins
namespace Go.Proofs.YtdglhonogopciaaDoor
open Go.RowKit

/-- what every round finds: both plans, the mark that all are made of, its two rows -/
def NumAt (sz p g : Int) (P Z H : Nat) (w wx : World) : Prop :=
  AtK wx P (.cells #[.int .i64 sz, .int .i64 p, .int .i64 g] 31 (0, 0)) ∧ AtK wx (P + 1) (.cells #[.int .i64 sz, .int .i64 p, .int .i64 g] 32 (0, 0)) ∧ AtK wx (Z + 1 + 1) (.cells #[.int .u64 1, .int .u64 5, .int .i64 1, .slice (some ⟨Z, 0, none⟩) 32 32, .slice (some ⟨Z + 1, 0, none⟩) 5 5] 25 (0, 0)) ∧
    Bs wx (some ⟨Z, 0, none⟩) 32 32 (List.replicate 32 0) ∧ Bs wx (some ⟨Z + 1, 0, none⟩) 5 5 [115, 116, 97, 116, 101] ∧ Ext H w wx
theorem NumAt.below {sz p g : Int} {P Z H : Nat} {w wx wy : World} (h : NumAt sz p g P Z H w wx) (hb : Below wx.heap.size wx wy) : NumAt sz p g P Z H w wy := by
  obtain ⟨h1, h2, h3, h4, h5, h6⟩ := h
  exact ⟨h1.below hb, h2.below hb, h3.below hb, h4.below hb, h5.below hb, h6.step hb⟩
theorem NumAt.chg {sz p g : Int} {P Z H M : Nat} {w wx wy : World} (h : NumAt sz p g P Z H w wx) (hc : Chg (fun k => k = M) wx wy) (hPZ : P + 1 < Z) (hZM : Z + 1 + 1 < M) (hHM : H ≤ M) : NumAt sz p g P Z H w wy := by
  obtain ⟨h1, h2, h3, h4, h5, h6⟩ := h
  refine ⟨(hc.block P (lt_of_heap h1) (by omega)).trans h1, (hc.block (P + 1) (lt_of_heap h2) (by omega)).trans h2, (hc.block (Z + 1 + 1) (lt_of_heap h3) (by omega)).trans h3, hc.bs h4 ?_, hc.bs h5 ?_, h6.to (hc.below h6.2 (fun _ _ h => by omega))⟩
  · rintro ad ⟨rfl⟩; show ¬ Z = M; omega
  · rintro ad ⟨rfl⟩; show ¬ Z + 1 = M; omega
/-- a mark in a block, whatever it holds -/
def SomeMk (wx : World) (M : Nat) : Prop := ∃ (m : Mk) (ah al : Option Addr) (lh ch lt ct : Nat),
  AtK wx M (.cells #[.int .u64 (m.gen : Int), .int .u64 (m.seq : Int), .int .i64 m.seg, .slice ah lh ch, .slice al lt ct] 25 (0, 0)) ∧ Bs wx ah lh ch m.head ∧ Bs wx al lt ct m.state
theorem SomeMk.set {sz p g : Int} {P Z H M i : Nat} {v : Value} {w wx : World} {C : Array Value} (h : NumAt sz p g P Z H w wx) (hPZ : P + 1 < Z) (hZM : Z + 1 + 1 < M) (hHM : H ≤ M) (hX : AtK wx M (.cells C 25 (0, 0)))
    (m : Mk) (ah al : Option Addr) (lh ch lt ct : Nat) (e : C.setIfInBounds i v = #[.int .u64 (m.gen : Int), .int .u64 (m.seq : Int), .int .i64 m.seg, .slice ah lh ch, .slice al lt ct]) (h1 : Bs wx ah lh ch m.head) (n1 : ∀ ad, ah = some ad → ad.block ≠ M) (h2 : Bs wx al lt ct m.state) (n2 : ∀ ad, al = some ad → ad.block ≠ M) :
    NumAt sz p g P Z H w (wx.setCell ⟨M, i, none⟩ v) ∧ SomeMk (wx.setCell ⟨M, i, none⟩ v) M := by
  have hc : Chg (fun k => k = M) wx (wx.setCell ⟨M, i, none⟩ v) := (Chg.refl (fun k => k = M) wx).setCell (p := ⟨M, i, none⟩) (fun _ => rfl) _
  refine ⟨h.chg hc hPZ hZM hHM, m, ah, al, lh, ch, lt, ct, ?_, hc.bs h1 n1, hc.bs h2 n2⟩
  rw [← e]
  exact cells_set hX
theorem SomeMk.set2 {sz p g : Int} {P Z H M : Nat} {v0 v1 : Value} {w wx : World} {C : Array Value} (h : NumAt sz p g P Z H w wx) (hPZ : P + 1 < Z) (hZM : Z + 1 + 1 < M) (hHM : H ≤ M) (hX : AtK wx M (.cells C 25 (0, 0)))
    (m : Mk) (ah al : Option Addr) (lh ch lt ct : Nat) (e : (C.setIfInBounds 0 v0).setIfInBounds 1 v1 = #[.int .u64 (m.gen : Int), .int .u64 (m.seq : Int), .int .i64 m.seg, .slice ah lh ch, .slice al lt ct]) (h1 : Bs wx ah lh ch m.head) (n1 : ∀ ad, ah = some ad → ad.block ≠ M) (h2 : Bs wx al lt ct m.state) (n2 : ∀ ad, al = some ad → ad.block ≠ M) :
    NumAt sz p g P Z H w ((wx.setCell ⟨M, 0, none⟩ v0).setCell ⟨M, 1, none⟩ v1) ∧ SomeMk ((wx.setCell ⟨M, 0, none⟩ v0).setCell ⟨M, 1, none⟩ v1) M := by
  have hc : Chg (fun k => k = M) wx ((wx.setCell ⟨M, 0, none⟩ v0).setCell ⟨M, 1, none⟩ v1) := ((Chg.refl (fun k => k = M) wx).setCell (p := ⟨M, 0, none⟩) (fun _ => rfl) _).setCell (p := ⟨M, 1, none⟩) (fun _ => rfl) _
  refine ⟨h.chg hc hPZ hZM hHM, m, ah, al, lh, ch, lt, ct, ?_, hc.bs h1 n1, hc.bs h2 n2⟩
  rw [← e]
  exact cells_set (cells_set hX)

set_option maxHeartbeats 16000000 in
set_option maxRecDepth 100000 in
theorem PointNumbers_walk (w : World) :
    Calls Tryd.prog 4 #[] w fun e w' => e = .returned (.bool true) ∧ Below w.heap.size w w' := by
  have HPA := Lib.hid (fun w => plan_any 0 w)
  have hpl := ptPlan 0
  have hbd := ptSz_bd 0
  generalize ptSz 0 = sz at *
  generalize seg sz = g at *
  have hp1 : 16 ≤ sz / 4 ∧ sz / 4 ≤ 66 := by omega
  generalize sz / 4 = p at *
  clear hbd hpl hp1
  obtain ⟨H, hH⟩ : ∃ H, H = w.heap.size := ⟨_, rfl⟩
  have hE := Ext.refl w
  rw [← hH] at hE ⊢
  clear hH
  go_enter Tryd.func4, Tryd.ntmps4
  go_wp2_with fail
  refine (HPA.out _).mono ?_
  rintro e w1 ⟨rfl, hb⟩
  replace hE := hE.step hb
  clear hb HPA
  have hP : AtK ((w1.alloc (.cells #[.int .i64 sz, .int .i64 p, .int .i64 g] 31)).alloc (.cells #[.int .i64 sz, .int .i64 p, .int .i64 g] 32)) w1.heap.size (.cells #[.int .i64 sz, .int .i64 p, .int .i64 g] 31 (0, 0)) := (Below.heap_alloc (w1.alloc (.cells #[.int .i64 sz, .int .i64 p, .int .i64 g] 31)) _ w1.heap.size (by simp)).trans (heap_alloc_new w1 _)
  have hQ : AtK ((w1.alloc (.cells #[.int .i64 sz, .int .i64 p, .int .i64 g] 31)).alloc (.cells #[.int .i64 sz, .int .i64 p, .int .i64 g] 32)) (w1.heap.size + 1) (.cells #[.int .i64 sz, .int .i64 p, .int .i64 g] 32 (0, 0)) := by
    have := heap_alloc_new (w1.alloc (.cells #[.int .i64 sz, .int .i64 p, .int .i64 g] 31)) (.cells #[.int .i64 sz, .int .i64 p, .int .i64 g] 32)
    rw [World.size_alloc] at this
    exact this
  have hbA := ((Below.refl w1.heap.size w1).alloc (Nat.le_refl _) (.cells #[.int .i64 sz, .int .i64 p, .int .i64 g] 31)).alloc (by simp) (.cells #[.int .i64 sz, .int .i64 p, .int .i64 g] 32)
  replace hE := hE.step hbA
  go_upto_region 2 with fail
  generalize ((w1.alloc (.cells #[.int .i64 sz, .int .i64 p, .int .i64 g] 31)).alloc (.cells #[.int .i64 sz, .int .i64 p, .int .i64 g] 32)) = w2 at *
  obtain ⟨P, hPe⟩ : ∃ P, P = w1.heap.size := ⟨_, rfl⟩
  rw [← hPe] at hP hQ ⊢
  clear hPe hbA
  have hmk : ∀ W, (Instr.makeSlice 23 (.int .i64 32) (.int .i64 32)).run Tryd.prog W = .ok (.slice (some ⟨W.heap.size, 0, none⟩) 32 32) (W.alloc (.cells (madeCells #[.int .u8 0] 32) TB)) := fun W => run_make_bytes 32 (by decide) W
  have hPZ := lt_of_heap hQ
  obtain ⟨Z, hZ⟩ : ∃ Z, Z = w2.heap.size := ⟨_, rfl⟩
  obtain ⟨wA, hwA⟩ : ∃ W, W = w2.alloc (.cells (madeCells #[.int .u8 0] 32) TB) := ⟨_, rfl⟩
  have hz := (Row.zero w2 32 (by unfold maxLen; decide)).bs
  rw [List.length_replicate, ← hwA, ← hZ] at hz
  have hsA : wA.heap.size = Z + 1 := by rw [hwA, hZ]; simp
  have hbA : Below w2.heap.size w2 wA := by rw [hwA]; exact (Below.refl _ _).alloc (Nat.le_refl _) _
  obtain ⟨wB, hwB⟩ : ∃ W, W = wA.alloc (.cells #[.int .u8 115, .int .u8 116, .int .u8 97, .int .u8 116, .int .u8 101] TB (5, 6)) := ⟨_, rfl⟩
  have hs : Bs wB (some ⟨Z + 1, 0, none⟩) 5 5 [115, 116, 97, 116, 101] := by rw [hwB, ← hsA]; exact Bs.newRow wA _ TB (5, 6) 5 5 [115, 116, 97, 116, 101] rfl (Nat.le_refl _) (by simp [maxLen]) rfl
  have hsB : wB.heap.size = Z + 1 + 1 := by rw [hwB]; simp [hsA]
  have hbB : Below wA.heap.size wA wB := by rw [hwB]; exact (Below.refl _ _).alloc (Nat.le_refl _) _
  obtain ⟨wC, hwC⟩ : ∃ W, W = wB.alloc (.cells #[.int .u64 1, .int .u64 5, .int .i64 1, .slice (some ⟨Z, 0, none⟩) 32 32, .slice (some ⟨Z + 1, 0, none⟩) 5 5] 25) := ⟨_, rfl⟩
  have hbC : Below wB.heap.size wB wC := by rw [hwC]; exact (Below.refl _ _).alloc (Nat.le_refl _) _
  have hG : AtK wC (Z + 1 + 1) (.cells #[.int .u64 1, .int .u64 5, .int .i64 1, .slice (some ⟨Z, 0, none⟩) 32 32, .slice (some ⟨Z + 1, 0, none⟩) 5 5] 25 (0, 0)) := by rw [hwC, ← hsB]; exact heap_alloc_new wB _
  rw [← hZ] at hPZ
  have hN : NumAt sz p g P Z H w wC := ⟨((hP.below hbA).below hbB).below hbC, ((hQ.below hbA).below hbB).below hbC, hG, ((hz.below hbB).below hbC), hs.below hbC, (((hE.step hbA).step hbB).step hbC)⟩
  have HW := Lib.hid (And.intro hZ (And.intro hwA (And.intro hwB hwC)))
  have kc := Go.Joins.run_convert_bytes_const_at (P := Tryd.prog) (w2.alloc (.cells (madeCells #[.int .u8 0] 32) TB)) 23 5 #[.int .u8 115, .int .u8 116, .int .u8 97, .int .u8 116, .int .u8 101] 5 5 (w2.heap.size + 1) (by simp) Tryd.underlying23 Tryd.underlying5
  have hHZ : H ≤ Z := by rw [hZ]; exact hE.2
  clear hP hQ hz hs hG hbA hbB hbC hE hwA hwB hwC hsA hsB hZ
  go_upto_region 3 with fail
  rw [← HW.out.1, ← HW.out.2.1]
  (try rw [← HW.out.2.2.1])
  (try rw [← HW.out.2.2.2])
  clear HW
  go_wp2_with fail
  go_loopw [4] (fun i wx => ∃ n : Nat, n ≤ 12 ∧ i = .int .i64 (n : Int) ∧ NumAt sz p g P Z H w wx) (fun i _ => 12 - (intOf i).toNat)
  case atStart => exact ⟨0, by omega, rfl, hN⟩
  case round =>
    obtain ⟨n, hn, rfl, hN1⟩ := hrel
    clear hN
    by_cases hlt : n < 12
    · have hn0 : (0 : Int) ≤ (n : Int) := by omega
      have hn1 : (n : Int) < 12 := by omega
      have hG := hN1.2.2.1
      have c0 := cells_at hG 0
      have c1 := cells_at hG 1
      have c2 := cells_at hG 2
      have c3 := cells_at hG 3
      have c4 := cells_at hG 4
      simp only [List.getElem?_toArray, List.getElem?_cons_zero, List.getElem?_cons_succ] at c0 c1 c2 c3 c4
      have hZM := lt_of_heap hG
      have hb1 := (Below.refl wr.heap.size wr).alloc (Nat.le_refl _) (.cells #[.int .u64 1, .int .u64 5, .int .i64 1, .slice (some ⟨Z, 0, none⟩) 32 32, .slice (some ⟨Z + 1, 0, none⟩) 5 5] 25)
      have hX : AtK (wr.alloc (.cells #[.int .u64 1, .int .u64 5, .int .i64 1, .slice (some ⟨Z, 0, none⟩) 32 32, .slice (some ⟨Z + 1, 0, none⟩) 5 5] 25)) wr.heap.size (.cells #[.int .u64 1, .int .u64 5, .int .i64 1, .slice (some ⟨Z, 0, none⟩) 32 32, .slice (some ⟨Z + 1, 0, none⟩) 5 5] 25 (0, 0)) := heap_alloc_new wr _
      replace hN1 := hN1.below hb1
      clear hG hb1
      go_upto_block 2 with fail
      generalize wr.alloc (.cells #[.int .u64 1, .int .u64 5, .int .i64 1, .slice (some ⟨Z, 0, none⟩) 32 32, .slice (some ⟨Z + 1, 0, none⟩) 5 5] 25) = w1 at *
      obtain ⟨M, hM⟩ : ∃ M, M = wr.heap.size := ⟨_, rfl⟩
      rw [← hM] at hX hZM ⊢
      clear hM c0 c1 c2 c3 c4
      have hHM : H ≤ M := by omega
      have ne1 : ∀ ad : Addr, some (⟨Z, 0, none⟩ : Addr) = some ad → ad.block ≠ M := by rintro ad ⟨rfl⟩; show Z ≠ M; omega
      have ne0 : ∀ ad : Addr, some (⟨Z, 1, none⟩ : Addr) = some ad → ad.block ≠ M := by rintro ad ⟨rfl⟩; show Z ≠ M; omega
      have ne2 : ∀ ad : Addr, some (⟨Z + 1, 0, none⟩ : Addr) = some ad → ad.block ≠ M := by rintro ad ⟨rfl⟩; show Z + 1 ≠ M; omega
      go_cut [5] (fun v wx => v = .pointer (some ⟨M, 0, none⟩) ∧ NumAt sz p g P Z H w wx ∧ SomeMk wx M)
      case first =>
        have hnc : n = 0 ∨ n = 1 ∨ n = 2 ∨ n = 3 ∨ n = 4 ∨ n = 5 ∨ n = 6 ∨ n = 7 ∨ n = 8 ∨ n = 9 ∨ n = 10 ∨ n = 11 := by omega
        have c0 := cells_at hX 0
        have c1 := cells_at hX 1
        have c2 := cells_at hX 2
        have c3 := cells_at hX 3
        have c4 := cells_at hX 4
        simp only [List.getElem?_toArray, List.getElem?_cons_zero, List.getElem?_cons_succ] at c0 c1 c2 c3 c4
        have f0 := frozen_at hX 0
        have f1 := frozen_at hX 1
        have f2 := frozen_at hX 2
        have f3 := frozen_at hX 3
        have f4 := frozen_at hX 4
        clear hn0 hn1 hlt hn
        rcases hnc with rfl | rfl | rfl | rfl | rfl | rfl | rfl | rfl | rfl | rfl | rfl | rfl
        · have HS := Lib.hid (show NumAt sz p g P Z H w w1 ∧ SomeMk w1 M from ⟨hN1, ⟨1, 5, 1, (List.replicate 32 0), [115, 116, 97, 116, 101]⟩, _, _, _, _, _, _, hX, (hN1.2.2.2.1), (hN1.2.2.2.2.1)⟩)
          clear hN1 hX
          go_wp2_with fail
          go_meet
          exact ⟨rfl, HS.out⟩
        · have HS := Lib.hid (SomeMk.set (i := 0) (v := (.int .u64 0)) hN1 hPZ hZM hHM hX ⟨0, 5, 1, (List.replicate 32 0), [115, 116, 97, 116, 101]⟩ (some ⟨Z, 0, none⟩) (some ⟨Z + 1, 0, none⟩) 32 32 5 5 rfl (hN1.2.2.2.1) ne1 (hN1.2.2.2.2.1) ne2)
          clear hN1 hX
          go_wp2_with fail
          go_meet
          exact ⟨rfl, HS.out⟩
        · have HS := Lib.hid (SomeMk.set (i := 0) (v := (.int .u64 1099511627777)) hN1 hPZ hZM hHM hX ⟨1099511627777, 5, 1, (List.replicate 32 0), [115, 116, 97, 116, 101]⟩ (some ⟨Z, 0, none⟩) (some ⟨Z + 1, 0, none⟩) 32 32 5 5 rfl (hN1.2.2.2.1) ne1 (hN1.2.2.2.2.1) ne2)
          clear hN1 hX
          go_wp2_with fail
          go_meet
          exact ⟨rfl, HS.out⟩
        · have HS := Lib.hid (SomeMk.set (i := 1) (v := (.int .u64 1099511627777)) hN1 hPZ hZM hHM hX ⟨1, 1099511627777, 1, (List.replicate 32 0), [115, 116, 97, 116, 101]⟩ (some ⟨Z, 0, none⟩) (some ⟨Z + 1, 0, none⟩) 32 32 5 5 rfl (hN1.2.2.2.1) ne1 (hN1.2.2.2.2.1) ne2)
          clear hN1 hX
          go_wp2_with fail
          go_meet
          exact ⟨rfl, HS.out⟩
        · have HS := Lib.hid (SomeMk.set (i := 2) (v := (.int .i64 4)) hN1 hPZ hZM hHM hX ⟨1, 5, 4, (List.replicate 32 0), [115, 116, 97, 116, 101]⟩ (some ⟨Z, 0, none⟩) (some ⟨Z + 1, 0, none⟩) 32 32 5 5 rfl (hN1.2.2.2.1) ne1 (hN1.2.2.2.2.1) ne2)
          clear hN1 hX
          go_wp2_with fail
          go_meet
          exact ⟨rfl, HS.out⟩
        · have HS := Lib.hid (SomeMk.set (i := 2) (v := (.int .i64 (-1))) hN1 hPZ hZM hHM hX ⟨1, 5, -1, (List.replicate 32 0), [115, 116, 97, 116, 101]⟩ (some ⟨Z, 0, none⟩) (some ⟨Z + 1, 0, none⟩) 32 32 5 5 rfl (hN1.2.2.2.1) ne1 (hN1.2.2.2.2.1) ne2)
          clear hN1 hX
          go_wp2_with fail
          go_meet
          exact ⟨rfl, HS.out⟩
        · have HS := Lib.hid (SomeMk.set (i := 3) (v := (.slice (some ⟨Z, 1, none⟩) 31 31)) hN1 hPZ hZM hHM hX ⟨1, 5, 1, List.replicate 31 0, [115, 116, 97, 116, 101]⟩ (some ⟨Z, 1, none⟩) (some ⟨Z + 1, 0, none⟩) 31 31 5 5 rfl ((hN1.2.2.2.1).drop (k := 1) (by decide)) ne0 (hN1.2.2.2.2.1) ne2)
          clear hN1 hX
          go_wp2_with fail
          go_meet
          exact ⟨rfl, HS.out⟩
        · have hmk : ∀ W, (Instr.makeSlice 23 (.int .i64 1954) (.int .i64 1954)).run Tryd.prog W = .ok (.slice (some ⟨W.heap.size, 0, none⟩) 1954 1954) (W.alloc (.cells (madeCells #[.int .u8 0] 1954) TB)) := fun W => run_make_bytes 1954 (by decide) W
          have hzz := (Row.zero w1 1954 (by unfold maxLen; decide)).bs
          rw [List.length_replicate] at hzz
          have hbz := (Below.refl w1.heap.size w1).alloc (Nat.le_refl _) (.cells (madeCells #[.int .u8 0] 1954) TB)
          have hN2 := hN1.below hbz
          have hX2 := hX.below hbz
          have c4 := cells_at hX2 4
          have f4 := frozen_at hX2 4
          simp only [List.getElem?_toArray, List.getElem?_cons_zero, List.getElem?_cons_succ] at c4
          have ne3 : ∀ ad : Addr, some (⟨w1.heap.size, 0, none⟩ : Addr) = some ad → ad.block ≠ M := by rintro ad ⟨rfl⟩; have := lt_of_heap hX; exact Nat.ne_of_gt this
          have HS := Lib.hid (SomeMk.set (i := 4) (v := (.slice (some ⟨w1.heap.size, 0, none⟩) 1954 1954)) hN2 hPZ hZM hHM hX2 ⟨1, 5, 1, (List.replicate 32 0), List.replicate 1954 0⟩ (some ⟨Z, 0, none⟩) (some ⟨w1.heap.size, 0, none⟩) 32 32 1954 1954 rfl hN2.2.2.2.1 ne1 hzz ne3)
          clear hN2 hX2 hzz hbz; clear hN1 hX
          go_wp2_with fail
          go_meet
          exact ⟨rfl, HS.out⟩
        · have hmk : ∀ W, (Instr.makeSlice 23 (.int .i64 1955) (.int .i64 1955)).run Tryd.prog W = .ok (.slice (some ⟨W.heap.size, 0, none⟩) 1955 1955) (W.alloc (.cells (madeCells #[.int .u8 0] 1955) TB)) := fun W => run_make_bytes 1955 (by decide) W
          have hzz := (Row.zero w1 1955 (by unfold maxLen; decide)).bs
          rw [List.length_replicate] at hzz
          have hbz := (Below.refl w1.heap.size w1).alloc (Nat.le_refl _) (.cells (madeCells #[.int .u8 0] 1955) TB)
          have hN2 := hN1.below hbz
          have hX2 := hX.below hbz
          have c4 := cells_at hX2 4
          have f4 := frozen_at hX2 4
          simp only [List.getElem?_toArray, List.getElem?_cons_zero, List.getElem?_cons_succ] at c4
          have ne3 : ∀ ad : Addr, some (⟨w1.heap.size, 0, none⟩ : Addr) = some ad → ad.block ≠ M := by rintro ad ⟨rfl⟩; have := lt_of_heap hX; exact Nat.ne_of_gt this
          have HS := Lib.hid (SomeMk.set (i := 4) (v := (.slice (some ⟨w1.heap.size, 0, none⟩) 1955 1955)) hN2 hPZ hZM hHM hX2 ⟨1, 5, 1, (List.replicate 32 0), List.replicate 1955 0⟩ (some ⟨Z, 0, none⟩) (some ⟨w1.heap.size, 0, none⟩) 32 32 1955 1955 rfl hN2.2.2.2.1 ne1 hzz ne3)
          clear hN2 hX2 hzz hbz; clear hN1 hX
          go_wp2_with fail
          go_meet
          exact ⟨rfl, HS.out⟩
        · have HS := Lib.hid (SomeMk.set (i := 4) (v := (.slice none 0 0)) hN1 hPZ hZM hHM hX ⟨1, 5, 1, (List.replicate 32 0), []⟩ (some ⟨Z, 0, none⟩) none 32 32 0 0 rfl (hN1.2.2.2.1) ne1 (Bs.nil _) (fun _ h => by cases h))
          clear hN1 hX
          go_wp2_with fail
          go_meet
          exact ⟨rfl, HS.out⟩
        · have HS := Lib.hid (SomeMk.set (i := 2) (v := (.int .i64 3)) hN1 hPZ hZM hHM hX ⟨1, 5, 3, (List.replicate 32 0), [115, 116, 97, 116, 101]⟩ (some ⟨Z, 0, none⟩) (some ⟨Z + 1, 0, none⟩) 32 32 5 5 rfl (hN1.2.2.2.1) ne1 (hN1.2.2.2.2.1) ne2)
          clear hN1 hX
          go_wp2_with fail
          go_meet
          exact ⟨rfl, HS.out⟩
        · have HS := Lib.hid (SomeMk.set2 (v0 := .int .u64 1099511627776) (v1 := .int .u64 1099511627776) hN1 hPZ hZM hHM hX ⟨1099511627776, 1099511627776, 1, (List.replicate 32 0), [115, 116, 97, 116, 101]⟩ (some ⟨Z, 0, none⟩) (some ⟨Z + 1, 0, none⟩) 32 32 5 5 rfl (hN1.2.2.2.1) ne1 (hN1.2.2.2.2.1) ne2)
          clear hN1 hX
          go_wp2_with fail
          go_meet
          exact ⟨rfl, HS.out⟩
      case rest =>
        obtain ⟨rfl, hN, m, ah, al, lh, ch, lt, ct, hX, hHD, hTB⟩ := hcut
        clear hN1
        have HEN := Lib.hid (fun w hA hB => rpenc_all sz p g m ah al lh ch lt ct w hA hB)
        generalize (ptEnc sz p g m).1 = L at *
        generalize (ptEnc sz p g m).2 = why at *
        go_upto_region 30 with fail
        obtain ⟨wd, hwd⟩ : ∃ wd, wd = wc.drew := ⟨_, rfl⟩
        have hb : Below wc.heap.size wc wd := by rw [hwd]; exact (Below.refl _ _).drew
        have hN := hN.below hb
        have hX := hX.below hb
        have hHD := hHD.below hb
        have hTB := hTB.below hb
        clear hb
        refine held_start (by kernel_rfl) (fun hHeld => ?_)
        rw [← hwd] at hHeld ⊢
        clear hwd
        refine held_take (i := 0) (v := ?_) 68 rfl (by kernel_rfl) (by kernel_rfl) (by kernel_rfl) (fun _ _ _ h => h) rfl (by assumption) (Or.inl ⟨by rfl, ?_⟩) ?_
        rotate_left
        · intro w hSw; have q0 := cells_at (hN.below hSw).2.1 0; have q1 := cells_at (hN.below hSw).2.1 1; have q2 := cells_at (hN.below hSw).2.1 2; simp only [List.getElem?_toArray, List.getElem?_cons_zero, List.getElem?_cons_succ] at q0 q1 q2; go_simp; (try with_reducible rfl)
        simp only [List.set_cons_zero, List.set_cons_succ]
        refine held_take (i := 1) (v := ?_) 69 rfl (by kernel_rfl) (by kernel_rfl) (by kernel_rfl) (fun _ _ _ h => h) rfl (by assumption) (Or.inl ⟨by rfl, ?_⟩) ?_
        rotate_left
        · intro w hSw; have x0 := cells_at (hX.below hSw) 0; have x1 := cells_at (hX.below hSw) 1; have x2 := cells_at (hX.below hSw) 2; have x3 := cells_at (hX.below hSw) 3; have x4 := cells_at (hX.below hSw) 4; simp only [List.getElem?_toArray, List.getElem?_cons_zero, List.getElem?_cons_succ] at x0 x1 x2 x3 x4; go_simp; (try with_reducible rfl)
        simp only [List.set_cons_zero, List.set_cons_succ]
        refine wpAnyH_ready (rs := [2]) (by kernel_rfl) (by simp) ?_
        refine (AllReadyH.cons rfl (fun K hK => ?_) AllReadyH.nil)
        go_simp
        refine (lin_any _ _ _ _ _ _ _ _ _ _).mono ?_
        rintro e w1x ⟨rfl, hb⟩
        have hbt := HB.trans hHeld hb
        have hN := hN.below hbt
        have hX := hX.below hbt
        have hHD := hHD.below hbt
        have hTB := hTB.below hbt
        go_wp2_with fail
        refine hK.out _ _ hbt (fun _ => held_next hbt (fun hHeld2 => ?_))
        clear hK hHeld hb hbt K
        have hHeld := hHeld2
        clear hHeld2
        refine wpAnyH_ready (rs := [3]) (by kernel_rfl) (by simp) ?_
        refine (AllReadyH.cons rfl (fun K hK => ?_) AllReadyH.nil)
        go_simp
        refine (HEN.out _ (hHD.below hHeld) (hTB.below hHeld)).mono ?_
        rintro e w2x ⟨⟨ba, bl, bc, rfl, ho, hBB⟩, hb⟩; clear ho
        have hbt := HB.trans hHeld hb
        have hN := hN.below hbt
        have hX := hX.below hbt
        have hHD := hHD.below hbt
        have hTB := hTB.below hbt
        go_wp2_with fail
        refine hK.out _ _ hbt (fun _ => held_next hbt (fun hHeld2 => ?_))
        clear hK hHeld hb hbt K
        have hHeld := hHeld2
        clear hHeld2
        refine held_take (i := 4) (v := ?_) 67 rfl (by kernel_rfl) (by kernel_rfl) (by kernel_rfl) (fun _ _ _ h => h) rfl (by assumption) (Or.inl ⟨by rfl, ?_⟩) ?_
        rotate_left
        · intro w hSw; go_simp; (try with_reducible rfl)
        simp only [List.set_cons_zero, List.set_cons_succ]
        refine held_take (i := 5) (v := ?_) 72 rfl (by kernel_rfl) (by kernel_rfl) (by kernel_rfl) (fun _ _ _ h => h) rfl (by assumption) (Or.inl ⟨by rfl, ?_⟩) ?_
        rotate_left
        · intro w hSw; go_simp; (try with_reducible rfl)
        simp only [List.set_cons_zero, List.set_cons_succ]
        refine held_take (i := 6) (v := ?_) 73 rfl (by kernel_rfl) (by kernel_rfl) (by kernel_rfl) (fun _ _ _ h => h) rfl (by assumption) (Or.inl ⟨by rfl, ?_⟩) ?_
        rotate_left
        · intro w hSw; go_simp; (try with_reducible rfl)
        simp only [List.set_cons_zero, List.set_cons_succ]
        refine held_take (i := 7) (v := ?_) 6 rfl (by kernel_rfl) (by kernel_rfl) (by kernel_rfl) (fun _ _ _ h => h) rfl (by assumption) (Or.inl ⟨by rfl, ?_⟩) ?_
        rotate_left
        · intro w hSw; go_simp; (try with_reducible rfl)
        simp only [List.set_cons_zero, List.set_cons_succ]
        refine held_take (i := 8) (v := ?_) 7 rfl (by kernel_rfl) (by kernel_rfl) (by kernel_rfl) (fun _ _ _ h => h) rfl (by assumption) (Or.inl ⟨by rfl, ?_⟩) ?_
        rotate_left
        · intro w hSw; go_simp; (try with_reducible rfl)
        simp only [List.set_cons_zero, List.set_cons_succ]
        refine wpAnyH_done (by kernel_rfl) ?_ _
        clear hHeld
        go_upto_region 31 with fail
        rcases Nat.eq_zero_or_pos bl with hbl | hbl
        · subst hbl
          obtain ⟨wd, hwd⟩ : ∃ wd, wd = w2x.drew := ⟨_, rfl⟩
          have hb : Below w2x.heap.size w2x wd := by rw [hwd]; exact (Below.refl _ _).drew
          have hN := hN.below hb
          have hX := hX.below hb
          have hHD := hHD.below hb
          have hTB := hTB.below hb
          have hBB := hBB.below hb
          clear hb
          refine held_start (by kernel_rfl) (fun hHeld => ?_)
          rw [← hwd] at hHeld ⊢
          clear hwd
          refine held_take (i := 0) (v := ?_) 74 rfl (by kernel_rfl) (by kernel_rfl) (by kernel_rfl) (fun _ _ _ h => h) rfl (by assumption) (Or.inl ⟨by rfl, ?_⟩) ?_
          rotate_left
          · intro w hSw; have p0 := cells_at (hN.below hSw).1 0; have p1 := cells_at (hN.below hSw).1 1; have p2 := cells_at (hN.below hSw).1 2; simp only [List.getElem?_toArray, List.getElem?_cons_zero, List.getElem?_cons_succ] at p0 p1 p2; go_simp; (try with_reducible rfl)
          simp only [List.set_cons_zero, List.set_cons_succ]
          refine held_take (i := 1) (v := ?_) 75 rfl (by kernel_rfl) (by kernel_rfl) (by kernel_rfl) (fun _ _ _ h => h) rfl (by assumption) (Or.inl ⟨by rfl, ?_⟩) ?_
          rotate_left
          · intro w hSw; have q0 := cells_at (hN.below hSw).2.1 0; have q1 := cells_at (hN.below hSw).2.1 1; have q2 := cells_at (hN.below hSw).2.1 2; simp only [List.getElem?_toArray, List.getElem?_cons_zero, List.getElem?_cons_succ] at q0 q1 q2; go_simp; (try with_reducible rfl)
          simp only [List.set_cons_zero, List.set_cons_succ]
          refine held_take (i := 2) (v := ?_) 76 rfl (by kernel_rfl) (by kernel_rfl) (by kernel_rfl) (fun _ _ _ h => h) rfl (by assumption) (Or.inl ⟨by rfl, ?_⟩) ?_
          rotate_left
          · intro w hSw; have x0 := cells_at (hX.below hSw) 0; have x1 := cells_at (hX.below hSw) 1; have x2 := cells_at (hX.below hSw) 2; have x3 := cells_at (hX.below hSw) 3; have x4 := cells_at (hX.below hSw) 4; simp only [List.getElem?_toArray, List.getElem?_cons_zero, List.getElem?_cons_succ] at x0 x1 x2 x3 x4; go_simp; (try with_reducible rfl)
          simp only [List.set_cons_zero, List.set_cons_succ]
          refine wpAnyH_ready (rs := [3]) (by kernel_rfl) (by simp) ?_
          refine (AllReadyH.cons rfl (fun K hK => ?_) AllReadyH.nil)
          go_simp
          refine (lsame_any sz p g m ah al lh ch lt ct _ (hHD.below hHeld) (hTB.below hHeld)).mono ?_
          rintro e w1x ⟨rfl, hb⟩
          have hbt := HB.trans hHeld hb
          have hN := hN.below hbt
          have hX := hX.below hbt
          have hHD := hHD.below hbt
          have hTB := hTB.below hbt
          have hBB := hBB.below hbt
          go_wp2_with fail
          refine hK.out _ _ hbt (fun _ => held_next hbt (fun hHeld2 => ?_))
          clear hK hHeld hb hbt K
          have hHeld := hHeld2
          clear hHeld2
          refine held_take (i := 4) (v := ?_) 78 rfl (by kernel_rfl) (by kernel_rfl) (by kernel_rfl) (fun _ _ _ h => h) rfl (by assumption) (Or.inl ⟨by rfl, ?_⟩) ?_
          rotate_left
          · intro w hSw; go_simp; (try with_reducible rfl)
          simp only [List.set_cons_zero, List.set_cons_succ]
          refine held_take (i := 5) (v := ?_) 79 rfl (by kernel_rfl) (by kernel_rfl) (by kernel_rfl) (fun _ _ _ h => h) rfl (by assumption) (Or.inl ⟨by rfl, ?_⟩) ?_
          rotate_left
          · intro w hSw; go_simp; (try with_reducible rfl)
          simp only [List.set_cons_zero, List.set_cons_succ]
          refine held_take (i := 6) (v := ?_) 80 rfl (by kernel_rfl) (by kernel_rfl) (by kernel_rfl) (fun _ _ _ h => h) rfl (by assumption) (Or.inl ⟨by rfl, ?_⟩) ?_
          rotate_left
          · intro w hSw; have p0 := cells_at (hN.below hSw).1 0; have p1 := cells_at (hN.below hSw).1 1; have p2 := cells_at (hN.below hSw).1 2; simp only [List.getElem?_toArray, List.getElem?_cons_zero, List.getElem?_cons_succ] at p0 p1 p2; go_simp; (try with_reducible rfl)
          simp only [List.set_cons_zero, List.set_cons_succ]
          refine held_take (i := 7) (v := ?_) 81 rfl (by kernel_rfl) (by kernel_rfl) (by kernel_rfl) (fun _ _ _ h => h) rfl (by assumption) (Or.inl ⟨by rfl, ?_⟩) ?_
          rotate_left
          · intro w hSw; have q0 := cells_at (hN.below hSw).2.1 0; have q1 := cells_at (hN.below hSw).2.1 1; have q2 := cells_at (hN.below hSw).2.1 2; simp only [List.getElem?_toArray, List.getElem?_cons_zero, List.getElem?_cons_succ] at q0 q1 q2; go_simp; (try with_reducible rfl)
          simp only [List.set_cons_zero, List.set_cons_succ]
          refine held_take (i := 8) (v := ?_) 82 rfl (by kernel_rfl) (by kernel_rfl) (by kernel_rfl) (fun _ _ _ h => h) rfl (by assumption) (Or.inl ⟨by rfl, ?_⟩) ?_
          rotate_left
          · intro w hSw; go_simp; (try with_reducible rfl)
          simp only [List.set_cons_zero, List.set_cons_succ]
          refine wpAnyH_ready (rs := [9]) (by kernel_rfl) (by simp) ?_
          refine (AllReadyH.cons rfl (fun K hK => ?_) AllReadyH.nil)
          go_simp
          refine (lread_any sz p g _ _ _ _ _ (hBB.below hHeld)).mono ?_
          rintro e w2x ⟨rfl, hb⟩
          have hbt := HB.trans hHeld hb
          have hN := hN.below hbt
          have hX := hX.below hbt
          have hHD := hHD.below hbt
          have hTB := hTB.below hbt
          have hBB := hBB.below hbt
          go_wp2_with fail
          refine hK.out _ _ hbt (fun _ => held_next hbt (fun hHeld2 => ?_))
          clear hK hHeld hb hbt K
          have hHeld := hHeld2
          clear hHeld2
          refine held_take (i := 10) (v := ?_) 84 rfl (by kernel_rfl) (by kernel_rfl) (by kernel_rfl) (fun _ _ _ h => h) rfl (by assumption) (Or.inl ⟨by rfl, ?_⟩) ?_
          rotate_left
          · intro w hSw; go_simp; (try with_reducible rfl)
          simp only [List.set_cons_zero, List.set_cons_succ]
          refine held_take (i := 11) (v := ?_) 85 rfl (by kernel_rfl) (by kernel_rfl) (by kernel_rfl) (fun _ _ _ h => h) rfl (by assumption) (Or.inl ⟨by rfl, ?_⟩) ?_
          rotate_left
          · intro w hSw; go_simp; (try with_reducible rfl)
          simp only [List.set_cons_zero, List.set_cons_succ]
          refine held_take (i := 12) (v := ?_) 86 rfl (by kernel_rfl) (by kernel_rfl) (by kernel_rfl) (fun _ _ _ h => h) rfl (by assumption) (Or.inl ⟨by rfl, ?_⟩) ?_
          rotate_left
          · intro w hSw; go_simp; (try with_reducible rfl)
          simp only [List.set_cons_zero, List.set_cons_succ]
          refine held_take (i := 13) (v := ?_) 87 rfl (by kernel_rfl) (by kernel_rfl) (by kernel_rfl) (fun _ _ _ h => h) rfl (by assumption) (Or.inl ⟨by rfl, ?_⟩) ?_
          rotate_left
          · intro w hSw; go_simp; (try with_reducible rfl)
          simp only [List.set_cons_zero, List.set_cons_succ]
          refine held_take (i := 14) (v := ?_) 88 rfl (by kernel_rfl) (by kernel_rfl) (by kernel_rfl) (fun _ _ _ h => h) rfl (by assumption) (Or.inl ⟨by rfl, ?_⟩) ?_
          rotate_left
          · intro w hSw; go_simp; (try with_reducible rfl)
          simp only [List.set_cons_zero, List.set_cons_succ]
          refine held_take (i := 15) (v := ?_) 89 rfl (by kernel_rfl) (by kernel_rfl) (by kernel_rfl) (fun _ _ _ h => h) rfl (by assumption) (Or.inl ⟨by rfl, ?_⟩) ?_
          rotate_left
          · intro w hSw; go_simp; (try with_reducible rfl)
          simp only [List.set_cons_zero, List.set_cons_succ]
          refine held_take (i := 16) (v := ?_) 90 rfl (by kernel_rfl) (by kernel_rfl) (by kernel_rfl) (fun _ _ _ h => h) rfl (by assumption) (Or.inl ⟨by rfl, ?_⟩) ?_
          rotate_left
          · intro w hSw; go_simp; (try with_reducible rfl)
          simp only [List.set_cons_zero, List.set_cons_succ]
          refine held_take (i := 17) (v := undef) 91 rfl (by kernel_rfl) (by kernel_rfl) (by kernel_rfl) (fun _ _ _ h => h) rfl (by assumption) (Or.inr ⟨by rfl, rfl⟩) ?_
          simp only [List.set_cons_zero, List.set_cons_succ]
          refine held_take (i := 18) (v := undef) 92 rfl (by kernel_rfl) (by kernel_rfl) (by kernel_rfl) (fun _ _ _ h => h) rfl (by assumption) (Or.inr ⟨by rfl, rfl⟩) ?_
          simp only [List.set_cons_zero, List.set_cons_succ]
          refine held_take (i := 19) (v := undef) 93 rfl (by kernel_rfl) (by kernel_rfl) (by kernel_rfl) (fun _ _ _ h => h) rfl (by assumption) (Or.inr ⟨by rfl, rfl⟩) ?_
          simp only [List.set_cons_zero, List.set_cons_succ]
          refine held_take (i := 20) (v := undef) 94 rfl (by kernel_rfl) (by kernel_rfl) (by kernel_rfl) (fun _ _ _ h => h) rfl (by assumption) (Or.inr ⟨by rfl, rfl⟩) ?_
          simp only [List.set_cons_zero, List.set_cons_succ]
          refine held_take (i := 21) (v := undef) 95 rfl (by kernel_rfl) (by kernel_rfl) (by kernel_rfl) (fun _ _ _ h => h) rfl (by assumption) (Or.inr ⟨by rfl, rfl⟩) ?_
          simp only [List.set_cons_zero, List.set_cons_succ]
          refine held_take (i := 22) (v := undef) 96 rfl (by kernel_rfl) (by kernel_rfl) (by kernel_rfl) (fun _ _ _ h => h) rfl (by assumption) (Or.inr ⟨by rfl, rfl⟩) ?_
          simp only [List.set_cons_zero, List.set_cons_succ]
          refine held_take (i := 23) (v := undef) 97 rfl (by kernel_rfl) (by kernel_rfl) (by kernel_rfl) (fun _ _ _ h => h) rfl (by assumption) (Or.inr ⟨by rfl, rfl⟩) ?_
          simp only [List.set_cons_zero, List.set_cons_succ]
          refine held_take (i := 24) (v := undef) 98 rfl (by kernel_rfl) (by kernel_rfl) (by kernel_rfl) (fun _ _ _ h => h) rfl (by assumption) (Or.inr ⟨by rfl, rfl⟩) ?_
          simp only [List.set_cons_zero, List.set_cons_succ]
          refine held_take (i := 25) (v := undef) 99 rfl (by kernel_rfl) (by kernel_rfl) (by kernel_rfl) (fun _ _ _ h => h) rfl (by assumption) (Or.inr ⟨by rfl, rfl⟩) ?_
          simp only [List.set_cons_zero, List.set_cons_succ]
          refine held_take (i := 26) (v := undef) 100 rfl (by kernel_rfl) (by kernel_rfl) (by kernel_rfl) (fun _ _ _ h => h) rfl (by assumption) (Or.inr ⟨by rfl, rfl⟩) ?_
          simp only [List.set_cons_zero, List.set_cons_succ]
          refine held_take (i := 27) (v := undef) 101 rfl (by kernel_rfl) (by kernel_rfl) (by kernel_rfl) (fun _ _ _ h => h) rfl (by assumption) (Or.inr ⟨by rfl, rfl⟩) ?_
          simp only [List.set_cons_zero, List.set_cons_succ]
          refine held_take (i := 28) (v := undef) 102 rfl (by kernel_rfl) (by kernel_rfl) (by kernel_rfl) (fun _ _ _ h => h) rfl (by assumption) (Or.inr ⟨by rfl, rfl⟩) ?_
          simp only [List.set_cons_zero, List.set_cons_succ]
          refine held_take (i := 29) (v := undef) 103 rfl (by kernel_rfl) (by kernel_rfl) (by kernel_rfl) (fun _ _ _ h => h) rfl (by assumption) (Or.inr ⟨by rfl, rfl⟩) ?_
          simp only [List.set_cons_zero, List.set_cons_succ]
          refine held_take (i := 30) (v := ?_) 104 rfl (by kernel_rfl) (by kernel_rfl) (by kernel_rfl) (fun _ _ _ h => h) rfl (by assumption) (Or.inl ⟨by rfl, ?_⟩) ?_
          rotate_left
          · intro w hSw; go_simp; (try with_reducible rfl)
          simp only [List.set_cons_zero, List.set_cons_succ]
          refine held_take (i := 31) (v := ?_) 105 rfl (by kernel_rfl) (by kernel_rfl) (by kernel_rfl) (fun _ _ _ h => h) rfl (by assumption) (Or.inl ⟨by rfl, ?_⟩) ?_
          rotate_left
          · intro w hSw; go_simp; (try with_reducible rfl)
          simp only [List.set_cons_zero, List.set_cons_succ]
          refine wpAnyH_done (by kernel_rfl) ?_ _
          clear hHeld hX hHD hTB hBB HEN
          have i1 : IntKind.i64.wrap ((n : Int) + 1) = ((n + 1 : Nat) : Int) := by rw [IntWalk.i64_in _ (by omega)]; omega
          go_wp2_with fail
          go_roundw
          case rel => exact ⟨n + 1, by omega, by go_num, hN⟩
          case measure => simp [intOf]; omega
        · have hb0 : (0 : Int) < (bl : Int) := by omega
          have hDR := hBB.drop (k := 1) hbl
          obtain ⟨ad, had⟩ : ∃ ad, (if bc = 1 then ba else ba.map (·.add 1)) = ad := ⟨_, rfl⟩
          rw [had] at hDR
          have hb1 : (1 : Int) ≤ (bl : Int) := by omega
          have had2 := had
          simp only [Addr.add, Nat.succ_ne_self, if_false] at had2
          obtain ⟨wd, hwd⟩ : ∃ wd, wd = w2x.drew := ⟨_, rfl⟩
          have hb : Below w2x.heap.size w2x wd := by rw [hwd]; exact (Below.refl _ _).drew
          have hN := hN.below hb
          have hX := hX.below hb
          have hHD := hHD.below hb
          have hTB := hTB.below hb
          have hBB := hBB.below hb
          have hDR := hDR.below hb
          clear hb
          refine held_start (by kernel_rfl) (fun hHeld => ?_)
          rw [← hwd] at hHeld ⊢
          clear hwd
          refine held_take (i := 0) (v := ?_) 74 rfl (by kernel_rfl) (by kernel_rfl) (by kernel_rfl) (fun _ _ _ h => h) rfl (by assumption) (Or.inl ⟨by rfl, ?_⟩) ?_
          rotate_left
          · intro w hSw; have p0 := cells_at (hN.below hSw).1 0; have p1 := cells_at (hN.below hSw).1 1; have p2 := cells_at (hN.below hSw).1 2; simp only [List.getElem?_toArray, List.getElem?_cons_zero, List.getElem?_cons_succ] at p0 p1 p2; go_simp; (try with_reducible rfl)
          simp only [List.set_cons_zero, List.set_cons_succ]
          refine held_take (i := 1) (v := ?_) 75 rfl (by kernel_rfl) (by kernel_rfl) (by kernel_rfl) (fun _ _ _ h => h) rfl (by assumption) (Or.inl ⟨by rfl, ?_⟩) ?_
          rotate_left
          · intro w hSw; have q0 := cells_at (hN.below hSw).2.1 0; have q1 := cells_at (hN.below hSw).2.1 1; have q2 := cells_at (hN.below hSw).2.1 2; simp only [List.getElem?_toArray, List.getElem?_cons_zero, List.getElem?_cons_succ] at q0 q1 q2; go_simp; (try with_reducible rfl)
          simp only [List.set_cons_zero, List.set_cons_succ]
          refine held_take (i := 2) (v := ?_) 76 rfl (by kernel_rfl) (by kernel_rfl) (by kernel_rfl) (fun _ _ _ h => h) rfl (by assumption) (Or.inl ⟨by rfl, ?_⟩) ?_
          rotate_left
          · intro w hSw; have x0 := cells_at (hX.below hSw) 0; have x1 := cells_at (hX.below hSw) 1; have x2 := cells_at (hX.below hSw) 2; have x3 := cells_at (hX.below hSw) 3; have x4 := cells_at (hX.below hSw) 4; simp only [List.getElem?_toArray, List.getElem?_cons_zero, List.getElem?_cons_succ] at x0 x1 x2 x3 x4; go_simp; (try with_reducible rfl)
          simp only [List.set_cons_zero, List.set_cons_succ]
          refine wpAnyH_ready (rs := [3]) (by kernel_rfl) (by simp) ?_
          refine (AllReadyH.cons rfl (fun K hK => ?_) AllReadyH.nil)
          go_simp
          refine (lsame_any sz p g m ah al lh ch lt ct _ (hHD.below hHeld) (hTB.below hHeld)).mono ?_
          rintro e w1x ⟨rfl, hb⟩
          have hbt := HB.trans hHeld hb
          have hN := hN.below hbt
          have hX := hX.below hbt
          have hHD := hHD.below hbt
          have hTB := hTB.below hbt
          have hBB := hBB.below hbt
          have hDR := hDR.below hbt
          go_wp2_with fail
          refine hK.out _ _ hbt (fun _ => held_next hbt (fun hHeld2 => ?_))
          clear hK hHeld hb hbt K
          have hHeld := hHeld2
          clear hHeld2
          refine held_take (i := 4) (v := ?_) 78 rfl (by kernel_rfl) (by kernel_rfl) (by kernel_rfl) (fun _ _ _ h => h) rfl (by assumption) (Or.inl ⟨by rfl, ?_⟩) ?_
          rotate_left
          · intro w hSw; go_simp; (try with_reducible rfl)
          simp only [List.set_cons_zero, List.set_cons_succ]
          refine held_take (i := 5) (v := ?_) 79 rfl (by kernel_rfl) (by kernel_rfl) (by kernel_rfl) (fun _ _ _ h => h) rfl (by assumption) (Or.inl ⟨by rfl, ?_⟩) ?_
          rotate_left
          · intro w hSw; go_simp; (try with_reducible rfl)
          simp only [List.set_cons_zero, List.set_cons_succ]
          refine held_take (i := 6) (v := ?_) 80 rfl (by kernel_rfl) (by kernel_rfl) (by kernel_rfl) (fun _ _ _ h => h) rfl (by assumption) (Or.inl ⟨by rfl, ?_⟩) ?_
          rotate_left
          · intro w hSw; have p0 := cells_at (hN.below hSw).1 0; have p1 := cells_at (hN.below hSw).1 1; have p2 := cells_at (hN.below hSw).1 2; simp only [List.getElem?_toArray, List.getElem?_cons_zero, List.getElem?_cons_succ] at p0 p1 p2; go_simp; (try with_reducible rfl)
          simp only [List.set_cons_zero, List.set_cons_succ]
          refine held_take (i := 7) (v := ?_) 81 rfl (by kernel_rfl) (by kernel_rfl) (by kernel_rfl) (fun _ _ _ h => h) rfl (by assumption) (Or.inl ⟨by rfl, ?_⟩) ?_
          rotate_left
          · intro w hSw; have q0 := cells_at (hN.below hSw).2.1 0; have q1 := cells_at (hN.below hSw).2.1 1; have q2 := cells_at (hN.below hSw).2.1 2; simp only [List.getElem?_toArray, List.getElem?_cons_zero, List.getElem?_cons_succ] at q0 q1 q2; go_simp; (try with_reducible rfl)
          simp only [List.set_cons_zero, List.set_cons_succ]
          refine held_take (i := 8) (v := ?_) 82 rfl (by kernel_rfl) (by kernel_rfl) (by kernel_rfl) (fun _ _ _ h => h) rfl (by assumption) (Or.inl ⟨by rfl, ?_⟩) ?_
          rotate_left
          · intro w hSw; go_simp; (try with_reducible rfl)
          simp only [List.set_cons_zero, List.set_cons_succ]
          refine wpAnyH_ready (rs := [9]) (by kernel_rfl) (by simp) ?_
          refine (AllReadyH.cons rfl (fun K hK => ?_) AllReadyH.nil)
          go_simp
          refine (lread_any sz p g _ _ _ _ _ (hBB.below hHeld)).mono ?_
          rintro e w2x ⟨rfl, hb⟩
          have hbt := HB.trans hHeld hb
          have hN := hN.below hbt
          have hX := hX.below hbt
          have hHD := hHD.below hbt
          have hTB := hTB.below hbt
          have hBB := hBB.below hbt
          have hDR := hDR.below hbt
          go_wp2_with fail
          refine hK.out _ _ hbt (fun _ => held_next hbt (fun hHeld2 => ?_))
          clear hK hHeld hb hbt K
          have hHeld := hHeld2
          clear hHeld2
          refine held_take (i := 10) (v := ?_) 84 rfl (by kernel_rfl) (by kernel_rfl) (by kernel_rfl) (fun _ _ _ h => h) rfl (by assumption) (Or.inl ⟨by rfl, ?_⟩) ?_
          rotate_left
          · intro w hSw; go_simp; (try with_reducible rfl)
          simp only [List.set_cons_zero, List.set_cons_succ]
          refine held_take (i := 11) (v := ?_) 85 rfl (by kernel_rfl) (by kernel_rfl) (by kernel_rfl) (fun _ _ _ h => h) rfl (by assumption) (Or.inl ⟨by rfl, ?_⟩) ?_
          rotate_left
          · intro w hSw; go_simp; (try with_reducible rfl)
          simp only [List.set_cons_zero, List.set_cons_succ]
          refine held_take (i := 12) (v := ?_) 86 rfl (by kernel_rfl) (by kernel_rfl) (by kernel_rfl) (fun _ _ _ h => h) rfl (by assumption) (Or.inl ⟨by rfl, ?_⟩) ?_
          rotate_left
          · intro w hSw; go_simp; (try with_reducible rfl)
          simp only [List.set_cons_zero, List.set_cons_succ]
          refine held_take (i := 13) (v := ?_) 87 rfl (by kernel_rfl) (by kernel_rfl) (by kernel_rfl) (fun _ _ _ h => h) rfl (by assumption) (Or.inl ⟨by rfl, ?_⟩) ?_
          rotate_left
          · intro w hSw; go_simp; (try with_reducible rfl)
          simp only [List.set_cons_zero, List.set_cons_succ]
          refine held_take (i := 14) (v := ?_) 88 rfl (by kernel_rfl) (by kernel_rfl) (by kernel_rfl) (fun _ _ _ h => h) rfl (by assumption) (Or.inl ⟨by rfl, ?_⟩) ?_
          rotate_left
          · intro w hSw; go_simp; (try with_reducible rfl)
          simp only [List.set_cons_zero, List.set_cons_succ]
          refine held_take (i := 15) (v := ?_) 89 rfl (by kernel_rfl) (by kernel_rfl) (by kernel_rfl) (fun _ _ _ h => h) rfl (by assumption) (Or.inl ⟨by rfl, ?_⟩) ?_
          rotate_left
          · intro w hSw; go_simp; (try with_reducible rfl)
          simp only [List.set_cons_zero, List.set_cons_succ]
          refine held_take (i := 16) (v := ?_) 90 rfl (by kernel_rfl) (by kernel_rfl) (by kernel_rfl) (fun _ _ _ h => h) rfl (by assumption) (Or.inl ⟨by rfl, ?_⟩) ?_
          rotate_left
          · intro w hSw; go_simp; (try with_reducible rfl)
          simp only [List.set_cons_zero, List.set_cons_succ]
          refine held_take (i := 17) (v := ?_) 91 rfl (by kernel_rfl) (by kernel_rfl) (by kernel_rfl) (fun _ _ _ h => h) rfl (by assumption) (Or.inl ⟨by rfl, ?_⟩) ?_
          rotate_left
          · intro w hSw; have p0 := cells_at (hN.below hSw).1 0; have p1 := cells_at (hN.below hSw).1 1; have p2 := cells_at (hN.below hSw).1 2; simp only [List.getElem?_toArray, List.getElem?_cons_zero, List.getElem?_cons_succ] at p0 p1 p2; go_simp; (try with_reducible rfl)
          simp only [List.set_cons_zero, List.set_cons_succ]
          refine held_take (i := 18) (v := ?_) 92 rfl (by kernel_rfl) (by kernel_rfl) (by kernel_rfl) (fun _ _ _ h => h) rfl (by assumption) (Or.inl ⟨by rfl, ?_⟩) ?_
          rotate_left
          · intro w hSw; have q0 := cells_at (hN.below hSw).2.1 0; have q1 := cells_at (hN.below hSw).2.1 1; have q2 := cells_at (hN.below hSw).2.1 2; simp only [List.getElem?_toArray, List.getElem?_cons_zero, List.getElem?_cons_succ] at q0 q1 q2; go_simp; (try with_reducible rfl)
          simp only [List.set_cons_zero, List.set_cons_succ]
          refine held_take (i := 19) (v := ?_) 93 rfl (by kernel_rfl) (by kernel_rfl) (by kernel_rfl) (fun _ _ _ h => h) rfl (by assumption) (Or.inl ⟨by rfl, ?_⟩) ?_
          rotate_left
          · intro w hSw; go_simp; (try with_reducible rfl)
          simp only [List.set_cons_zero, List.set_cons_succ]
          refine held_take (i := 20) (v := ?_) 94 rfl (by kernel_rfl) (by kernel_rfl) (by kernel_rfl) (fun _ _ _ h => h) rfl (by assumption) (Or.inl ⟨by rfl, ?_⟩) ?_
          rotate_left
          · intro w hSw; go_simp; (try with_reducible rfl)
          simp only [List.set_cons_zero, List.set_cons_succ]
          refine wpAnyH_ready (rs := [21]) (by kernel_rfl) (by simp) ?_
          refine (AllReadyH.cons rfl (fun K hK => ?_) AllReadyH.nil)
          go_simp
          refine (lread_any sz p g _ _ _ _ _ (hDR.below hHeld)).mono ?_
          rintro e w3x ⟨rfl, hb⟩
          have hbt := HB.trans hHeld hb
          have hN := hN.below hbt
          have hX := hX.below hbt
          have hHD := hHD.below hbt
          have hTB := hTB.below hbt
          have hBB := hBB.below hbt
          have hDR := hDR.below hbt
          go_wp2_with fail
          refine hK.out _ _ hbt (fun _ => held_next hbt (fun hHeld2 => ?_))
          clear hK hHeld hb hbt K
          have hHeld := hHeld2
          clear hHeld2
          refine held_take (i := 22) (v := ?_) 96 rfl (by kernel_rfl) (by kernel_rfl) (by kernel_rfl) (fun _ _ _ h => h) rfl (by assumption) (Or.inl ⟨by rfl, ?_⟩) ?_
          rotate_left
          · intro w hSw; go_simp; (try with_reducible rfl)
          simp only [List.set_cons_zero, List.set_cons_succ]
          refine held_take (i := 23) (v := ?_) 97 rfl (by kernel_rfl) (by kernel_rfl) (by kernel_rfl) (fun _ _ _ h => h) rfl (by assumption) (Or.inl ⟨by rfl, ?_⟩) ?_
          rotate_left
          · intro w hSw; go_simp; (try with_reducible rfl)
          simp only [List.set_cons_zero, List.set_cons_succ]
          refine held_take (i := 24) (v := ?_) 98 rfl (by kernel_rfl) (by kernel_rfl) (by kernel_rfl) (fun _ _ _ h => h) rfl (by assumption) (Or.inl ⟨by rfl, ?_⟩) ?_
          rotate_left
          · intro w hSw; go_simp; (try with_reducible rfl)
          simp only [List.set_cons_zero, List.set_cons_succ]
          refine held_take (i := 25) (v := ?_) 99 rfl (by kernel_rfl) (by kernel_rfl) (by kernel_rfl) (fun _ _ _ h => h) rfl (by assumption) (Or.inl ⟨by rfl, ?_⟩) ?_
          rotate_left
          · intro w hSw; go_simp; (try with_reducible rfl)
          simp only [List.set_cons_zero, List.set_cons_succ]
          refine held_take (i := 26) (v := ?_) 100 rfl (by kernel_rfl) (by kernel_rfl) (by kernel_rfl) (fun _ _ _ h => h) rfl (by assumption) (Or.inl ⟨by rfl, ?_⟩) ?_
          rotate_left
          · intro w hSw; have x0 := cells_at (hX.below hSw) 0; have x1 := cells_at (hX.below hSw) 1; have x2 := cells_at (hX.below hSw) 2; have x3 := cells_at (hX.below hSw) 3; have x4 := cells_at (hX.below hSw) 4; simp only [List.getElem?_toArray, List.getElem?_cons_zero, List.getElem?_cons_succ] at x0 x1 x2 x3 x4; go_simp; (try with_reducible rfl)
          simp only [List.set_cons_zero, List.set_cons_succ]
          refine wpAnyH_ready (rs := [27]) (by kernel_rfl) (by simp) ?_
          refine (AllReadyH.cons rfl (fun K hK => ?_) AllReadyH.nil)
          go_simp
          refine (lsame_any 64 0 0 m ah al lh ch lt ct _ (hHD.below hHeld) (hTB.below hHeld)).mono ?_
          rintro e w4x ⟨rfl, hb⟩
          have hbt := HB.trans hHeld hb
          have hN := hN.below hbt
          have hX := hX.below hbt
          have hHD := hHD.below hbt
          have hTB := hTB.below hbt
          have hBB := hBB.below hbt
          have hDR := hDR.below hbt
          go_wp2_with fail
          refine hK.out _ _ hbt (fun _ => held_next hbt (fun hHeld2 => ?_))
          clear hK hHeld hb hbt K
          have hHeld := hHeld2
          clear hHeld2
          refine held_take (i := 28) (v := ?_) 102 rfl (by kernel_rfl) (by kernel_rfl) (by kernel_rfl) (fun _ _ _ h => h) rfl (by assumption) (Or.inl ⟨by rfl, ?_⟩) ?_
          rotate_left
          · intro w hSw; go_simp; (try with_reducible rfl)
          simp only [List.set_cons_zero, List.set_cons_succ]
          refine held_take (i := 29) (v := ?_) 103 rfl (by kernel_rfl) (by kernel_rfl) (by kernel_rfl) (fun _ _ _ h => h) rfl (by assumption) (Or.inl ⟨by rfl, ?_⟩) ?_
          rotate_left
          · intro w hSw; go_simp; (try with_reducible rfl)
          simp only [List.set_cons_zero, List.set_cons_succ]
          refine held_take (i := 30) (v := ?_) 104 rfl (by kernel_rfl) (by kernel_rfl) (by kernel_rfl) (fun _ _ _ h => h) rfl (by assumption) (Or.inl ⟨by rfl, ?_⟩) ?_
          rotate_left
          · intro w hSw; go_simp; (try with_reducible rfl)
          simp only [List.set_cons_zero, List.set_cons_succ]
          refine held_take (i := 31) (v := ?_) 105 rfl (by kernel_rfl) (by kernel_rfl) (by kernel_rfl) (fun _ _ _ h => h) rfl (by assumption) (Or.inl ⟨by rfl, ?_⟩) ?_
          rotate_left
          · intro w hSw; go_simp; (try with_reducible rfl)
          simp only [List.set_cons_zero, List.set_cons_succ]
          refine wpAnyH_done (by kernel_rfl) ?_ _
          clear hHeld hX hHD hTB hBB hDR HEN
          have i1 : IntKind.i64.wrap ((n : Int) + 1) = ((n + 1 : Nat) : Int) := by rw [IntWalk.i64_in _ (by omega)]; omega
          go_wp2_with fail
          go_roundw
          case rel => exact ⟨n + 1, by omega, by go_num, hN⟩
          case measure => simp [intOf]; omega
    · obtain rfl : n = 12 := by omega
      go_wp2_with fail
      go_loopw [8] (fun i wx => ∃ a : Nat, a ≤ 3 ∧ i = .int .u64 (a : Int) ∧ NumAt sz p g P Z H w wx) (fun i _ => 3 - (intOf i).toNat)
      case atStart => exact ⟨0, by omega, rfl, hN1⟩
      case round =>
        obtain ⟨a, ha, rfl, hN2⟩ := hrel
        clear hN1
        by_cases hla : a < 3
        · have ha0 : (0 : Int) ≤ (a : Int) := by omega
          have ha3 : (a : Int) < 3 := by omega
          have ia : IntKind.u64.wrap ((a : Int) + 1) = ((a + 1 : Nat) : Int) := by rw [IntKind.wrap_u64]; omega
          go_wp2_with fail
          go_loopw [9] (fun i wx => ∃ b : Nat, b ≤ 3 ∧ i = .int .u64 (b : Int) ∧ NumAt sz p g P Z H w wx) (fun i _ => 3 - (intOf i).toNat)
          case atStart => exact ⟨0, by omega, rfl, hN2⟩
          case round =>
            obtain ⟨b, hb, rfl, hN3⟩ := hrel
            clear hN2
            by_cases hlb : b < 3
            · have hb0 : (0 : Int) ≤ (b : Int) := by omega
              have hb3 : (b : Int) < 3 := by omega
              have ib : IntKind.u64.wrap ((b : Int) + 1) = ((b + 1 : Nat) : Int) := by rw [IntKind.wrap_u64]; omega
              go_wp2_with fail
              go_loopw [10] (fun i wx => ∃ c : Nat, c ≤ 4 ∧ i = .int .i64 (c : Int) ∧ NumAt sz p g P Z H w wx) (fun i _ => 4 - (intOf i).toNat)
              case atStart => exact ⟨0, by omega, rfl, hN3⟩
              case round =>
                obtain ⟨c, hc, rfl, hN4⟩ := hrel
                clear hN3
                by_cases hlc : c < 4
                · have hcc : c = 0 ∨ c = 1 ∨ c = 2 ∨ c = 3 := by omega
                  clear hlc hc
                  rcases hcc with rfl | rfl | rfl | rfl
                  · go_wp2_with fail
                    refine (newer_any ⟨a, 0, 0, [], []⟩ ⟨b, 0, 0, [], []⟩ none none none none 0 0 0 0 0 0 0 0 false false wr).mono ?_
                    rintro e w5 ⟨rfl, hbw⟩
                    replace hN4 := hN4.below hbw
                    clear hbw
                    go_wp2_with fail
                    go_roundw
                    case rel =>
                      (repeat apply Exists.intro)
                      exact ⟨⟨1, by omega, by go_num, hN4⟩, rfl⟩
                    case measure => simp [intOf]
                  · go_wp2_with fail
                    refine (newer_any ⟨a, 0, 0, [], []⟩ ⟨b, 0, 0, [], []⟩ none none none none 0 0 0 0 0 0 0 0 true false wr).mono ?_
                    rintro e w5 ⟨rfl, hbw⟩
                    replace hN4 := hN4.below hbw
                    clear hbw
                    go_wp2_with fail
                    go_roundw
                    case rel =>
                      (repeat apply Exists.intro)
                      exact ⟨⟨2, by omega, by go_num, hN4⟩, rfl⟩
                    case measure => simp [intOf]
                  · go_wp2_with fail
                    refine (newer_any ⟨a, 0, 0, [], []⟩ ⟨b, 0, 0, [], []⟩ none none none none 0 0 0 0 0 0 0 0 false true wr).mono ?_
                    rintro e w5 ⟨rfl, hbw⟩
                    replace hN4 := hN4.below hbw
                    clear hbw
                    go_wp2_with fail
                    go_roundw
                    case rel =>
                      (repeat apply Exists.intro)
                      exact ⟨⟨3, by omega, by go_num, hN4⟩, rfl⟩
                    case measure => simp [intOf]
                  · by_cases hle : b ≤ a
                    · have hg : ¬ (a : Int) < (b : Int) := by omega
                      go_wp2_with fail
                      refine (newer_any ⟨a, 0, 0, [], []⟩ ⟨b, 0, 0, [], []⟩ none none none none 0 0 0 0 0 0 0 0 true true wr).mono ?_
                      rintro e w5 ⟨rfl, hbw⟩
                      replace hN4 := hN4.below hbw
                      clear hbw
                      rw [if_pos ⟨rfl, Or.inr hle⟩]
                      go_wp2_with fail
                      go_roundw
                      case rel =>
                        (repeat apply Exists.intro)
                        exact ⟨⟨4, by omega, by go_num, hN4⟩, rfl⟩
                      case measure => simp [intOf]
                    · have hg : (a : Int) < (b : Int) := by omega
                      go_wp2_with fail
                      refine (newer_any ⟨a, 0, 0, [], []⟩ ⟨b, 0, 0, [], []⟩ none none none none 0 0 0 0 0 0 0 0 true true wr).mono ?_
                      rintro e w5 ⟨rfl, hbw⟩
                      replace hN4 := hN4.below hbw
                      clear hbw
                      rw [if_neg (fun h => h.2.elim (fun h => by cases h) hle), if_pos rfl]
                      go_wp2_with fail
                      go_roundw
                      case rel =>
                        (repeat apply Exists.intro)
                        exact ⟨⟨4, by omega, by go_num, hN4⟩, rfl⟩
                      case measure => simp [intOf]
                · obtain rfl : c = 4 := by omega
                  go_wp2_with fail
                  go_roundw
                  case rel => exact ⟨b + 1, by omega, by go_num, hN4⟩
                  case measure => simp [intOf]; omega
            · obtain rfl : b = 3 := by omega
              go_wp2_with fail
              go_roundw
              case rel => exact ⟨a + 1, by omega, by go_num, hN3⟩
              case measure => simp [intOf]; omega
        · obtain rfl : a = 3 := by omega
          have hP := hN2.1
          have hQ := hN2.2.1
          have p0 := cells_at hP 0
          have p1 := cells_at hP 1
          have p2 := cells_at hP 2
          simp only [List.getElem?_toArray, List.getElem?_cons_zero, List.getElem?_cons_succ] at p0 p1 p2
          have q0 := cells_at hQ 0
          have q1 := cells_at hQ 1
          have q2 := cells_at hQ 2
          simp only [List.getElem?_toArray, List.getElem?_cons_zero, List.getElem?_cons_succ] at q0 q1 q2
          clear hP hQ
          go_wp2_with fail
          refine (lread_any sz p g _ _ _ _ _ (Bs.nil _)).mono ?_
          rintro e w13 ⟨rfl, hb⟩
          replace hN2 := hN2.below hb
          clear hb p0 p1 p2 q0 q1 q2
          go_wp2_with fail
          refine (pt_known w13).mono ?_
          rintro e w14 ⟨rfl, hb⟩
          replace hN2 := hN2.below hb
          clear hb
          go_wp2_with fail
          go_ret
          exact ⟨rfl, hN2.2.2.2.2.2.1⟩
end Go.Proofs.YtdglhonogopciaaDoor
