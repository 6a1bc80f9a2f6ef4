/- The walk of OpNumbers. -/
import Derived.Test.YtphjdlckoddgmaaRpLaw
import Derived.Test.YtphjdlckoddgmaaLaw15
import Derived.Test.YtphjdlckoddgmaaOpArg
import Derived.Test.YtphjdlckoddgmaaOpTame
import Derived.Test.YtphjdlckoddgmaaTools
import Derived.Deep.DeepCutAuto
import Derived.Deep.CutBlock
namespace Go.Proofs.Ytphjdlckoddgmaa
open Go.RowKit

/-- a block that holds some operation -/
def SomeOp (H : Nat) (w wx : World) (X : Nat) : Prop := ∃ k ps ts fd at_ n til sn da dl dc ds, wx.heap[X]? = some (.cells (ovCells k (strOf ps) (strOf ts) fd at_ n til sn da dl dc) 25 (0, 0)) ∧ Bs wx da dl dc ds ∧ Ext H w wx
theorem Bs.other {w : World} {g X i : Nat} {o len cap : Nat} {ys : List UInt8} (h : Bs w (some ⟨g, o, none⟩) len cap ys) (hne : g ≠ X) (v : Value) : Bs (w.setCell ⟨X, i, none⟩ v) (some ⟨g, o, none⟩) len cap ys :=
  Chg.bs (S := fun q => q = X) ((Chg.refl (fun q => q = X) w).setCell (p := ⟨X, i, none⟩) (fun _ => rfl) v) h (fun ad had => by cases had; exact hne)
theorem SomeOp.set {H X i : Nat} {w wx : World} {C : Array Value} {v : Value} (h : wx.heap[X]? = some (.cells C 25 (0, 0))) (hH : H ≤ X) (hE : Ext H w wx) (k : Int) (ps ts : List UInt8) (fd at_ n : Int) (til : Nat) (sn : Int) (da : Option Addr) (dl dc : Nat) (ds : List UInt8)
    (hC : C.setIfInBounds i v = ovCells k (strOf ps) (strOf ts) fd at_ n til sn da dl dc) (hB : Bs (wx.setCell ⟨X, i, none⟩ v) da dl dc ds) : SomeOp H w (wx.setCell ⟨X, i, none⟩ v) X :=
  ⟨k, ps, ts, fd, at_, n, til, sn, da, dl, dc, ds, by rw [← hC]; exact cells_set h, hB, hE.setCell (p := ⟨X, i, none⟩) hH v⟩

/-- a block that holds some reply -/
def SomeRp (H : Nat) (w wx : World) (X : Nat) : Prop := ∃ e n da dl dc ds na nl nc ls nd, wx.heap[X]? = some (.cells (rpCells e n da dl dc na nl nc nd) 45 (0, 0)) ∧ Bs wx da dl dc ds ∧ Ss wx na nl nc ls ∧ Ext H w wx
theorem Ss.other {w : World} {g X i : Nat} {o len cap : Nat} {ls : List (List UInt8)} (h : Ss w (some ⟨g, o, none⟩) len cap ls) (hne : g ≠ X) (v : Value) : Ss (w.setCell ⟨X, i, none⟩ v) (some ⟨g, o, none⟩) len cap ls := by
  obtain ⟨h1, h2, h3, h4⟩ := h
  refine ⟨h1, h2, h3, h4.imp id ?_⟩
  rintro ⟨b, off, e, h5, h6⟩
  cases e
  exact ⟨g, o, rfl, by simpa [World.setCell] using h5, fun j hj => by rw [World.cell?_of_block (a := ⟨g, o + j, none⟩) (Below.heap_setCell _ _ _ _ (show g ≠ (⟨X, i, none⟩ : Addr).block from hne))]; exact h6 j hj⟩
theorem rpEnc_len (r : Rp) : (rpEnc r).1.length ≤ 80000 := by
  unfold rpEnc
  split
  · rename_i h
    obtain ⟨⟨_, _, _, _, h5⟩, h6, _⟩ := h
    have h1 := namesBytes_len r.names h6
    have h2 := lenBytes_le r.dat
    have h3 : r.tail.length ≤ 20 := by
      unfold Rp.tail
      split
      · simp
      · have : (lenBytes r.node.bytes).length ≤ 18 := by simp [lenBytes, be_length, Nd.bytes_length]
        simp only [List.length_append, List.length_cons, List.length_nil]
        omega
    simp only [Rp.bytes_eq]
    unfold Rp.head
    simp only [List.length_append, be_length]
    omega
  · simp
set_option maxRecDepth 100000 in
theorem run_make_strs (W : World) : (Instr.makeSlice 41 (.int .i64 256) (.int .i64 256)).run Try.prog W = .ok (.slice (some ⟨W.heap.size, 0, none⟩) 256 256) (W.alloc (.cells (madeCells #[.string ⟨#[]⟩] 256) TST)) := by
  obtain ⟨i, hi, hz0, hz1, hz2⟩ := info_partsS infoTST
  have := run_make (P := Try.prog) W 41 TST i (.string ⟨#[]⟩) Try.underlying41 hi hz0 .i64 .i64 256 256 (by decide) (by decide) (by rw [hz2]; decide) (by decide)
  simpa [hz1, Value.cells] using this
set_option maxRecDepth 100000 in
theorem Ss.zero (w : World) : Ss (w.alloc (.cells (madeCells #[.string ⟨#[]⟩] 256) TST)) (some ⟨w.heap.size, 0, none⟩) 256 256 (List.replicate 256 []) := by
  refine ⟨by simp, Nat.le_refl _, by unfold maxLen; decide, .inr ⟨_, _, rfl, by simp, fun i hi => ?_⟩⟩
  rw [Nat.zero_add, World.cell?_alloc_mark]
  have h1 : (madeCells #[.string ⟨#[]⟩] 256).toList = List.replicate 256 (Value.string ⟨#[]⟩) := toList_madeCells_one _ _
  rw [← Array.getElem?_toList, h1]
  simp only [List.length_replicate] at hi
  rw [List.getElem?_replicate, if_pos hi, List.getElem_replicate]
  rfl

set_option maxHeartbeats 8000000 in
set_option maxRecDepth 100000 in
theorem OpNumbers_walk (w : World) :
    Calls Try.prog 5 #[] w fun e w' => e = .returned (.bool true) ∧ Below w.heap.size w w' := by
  obtain ⟨H, hH⟩ : ∃ H, H = w.heap.size := ⟨_, rfl⟩
  have HH := Lib.hid hH
  have hE0 := Ext.refl w
  have kc := fun (w : World) (C : Array Value) (n c : Nat) => Lib.run_convert_bytes_const (P := Try.prog) w 23 5 C n c Try.underlying23 Try.underlying5
  rw [← hH] at hE0 ⊢
  clear hH
  go_enter Try.func5, Try.ntmps5
  go_wp2_with fail
  go_loopw [1] (fun i wx => ∃ m : Nat, m ≤ 21 ∧ i = .int .i64 ((m : Int) - 1) ∧ Ext H w wx) (fun i _ => (20 - intOf i).toNat)
  case atStart => exact ⟨0, by omega, rfl, hE0⟩
  case round =>
    obtain ⟨m, hm, rfl, hE⟩ := hrel
    clear hE0
    by_cases hlm : m < 21
    · have g1 : (m : Int) - 1 < 20 := by omega
      have hkw : IntKind.i64.wrap ((m : Int) - 1 + 1) = (m : Int) := by rw [IntWalk.i64_in _ (by omega)]; omega
      have HKW := Lib.hid hkw
      clear hkw
      go_wp2_with fail
      go_loopw [2] (fun i wx => ∃ j : Nat, j ≤ 9 ∧ i = .int .i64 (j : Int) ∧ Ext H w wx) (fun i _ => 9 - (intOf i).toNat)
      case atStart => exact ⟨0, by omega, rfl, hE⟩
      case round =>
        obtain ⟨j, hj, rfl, hEj⟩ := hrel
        clear hE
        by_cases hlj : j < 9
        · have hj0 : (0 : Int) ≤ (j : Int) := by omega
          have hj9 : (j : Int) < 9 := by omega
          obtain ⟨g, hg⟩ : ∃ g, g = wr.heap.size := ⟨_, rfl⟩
          obtain ⟨w1, hw1⟩ : ∃ W, W = wr.alloc (.cells #[.int .u8 120, .int .u8 121, .int .u8 122] TB (3, 4)) := ⟨_, rfl⟩
          have hB1 : Bs w1 (some ⟨g, 0, none⟩) 3 3 [120, 121, 122] := by rw [hw1, hg]; exact Bs.newRow wr _ TB (3, 4) 3 3 [120, 121, 122] rfl (Nat.le_refl _) (by simp [maxLen]) rfl
          have hs1 : w1.heap.size = g + 1 := by rw [hw1, hg]; simp
          have hE1 : Ext H w w1 := by rw [hw1]; exact hEj.alloc _
          obtain ⟨w2, hw2⟩ : ∃ W, W = w1.alloc (.cells (ovCells ((m : Int) - 1) (strOf [47, 97]) (strOf [47, 98]) 1 2 3 4 5 (some ⟨g, 0, none⟩) 3 3) 25) := ⟨_, rfl⟩
          have hX : w2.heap[g + 1]? = some (.cells (ovCells ((m : Int) - 1) (strOf [47, 97]) (strOf [47, 98]) 1 2 3 4 5 (some ⟨g, 0, none⟩) 3 3) 25 (0, 0)) := by rw [hw2, ← hs1]; exact heap_alloc_new w1 _
          have hB : Bs w2 (some ⟨g, 0, none⟩) 3 3 [120, 121, 122] := by rw [hw2]; exact hB1.alloc _
          have hE2 : Ext H w w2 := by rw [hw2]; exact hE1.alloc _
          have hgH : H ≤ g := by rw [hg]; exact hEj.2
          have hgx : g < g + 1 := Nat.lt_succ_self g
          have hgX : H ≤ g + 1 := by omega
          have HW := Lib.hid (And.intro hg (And.intro hw1 hw2))
          unfold ovCells at HW
          rw [show strOf [47, 97] = (⟨#[47, 97]⟩ : ByteArray) from rfl, show strOf [47, 98] = (⟨#[47, 98]⟩ : ByteArray) from rfl, show ((4 : Nat) : Int) = 4 from rfl] at HW
          clear hg hw1 hw2 hB1 hs1 hE1
          go_upto_block 4 with fail
          rw [← HW.out.1, ← HW.out.2.1]
          rw [← HW.out.2.2]
          go_cut [] (fun wx => SomeOp H w wx (g + 1))
          case first =>
            have hjc : j = 0 ∨ j = 1 ∨ j = 2 ∨ j = 3 ∨ j = 4 ∨ j = 5 ∨ j = 6 ∨ j = 7 ∨ j = 8 := by omega
            have cX := cells_at hX
            have c1 := cX 1; have c2 := cX 2; have c3 := cX 3; have c4 := cX 4; have c5 := cX 5; have c6 := cX 6; have c7 := cX 7; have c8 := cX 8
            have f := frozen_at hX
            have f1 := f 1; have f2 := f 2; have f3 := f 3; have f4 := f 4; have f5 := f 5; have f6 := f 6; have f7 := f 7; have f8 := f 8
            simp only [ovCells, List.getElem?_toArray, List.getElem?_cons_zero, List.getElem?_cons_succ] at c1 c2 c3 c4 c5 c6 c7 c8
            clear cX f hj0 hj9
            rcases hjc with rfl | rfl | rfl | rfl | rfl | rfl | rfl | rfl | rfl
            · go_wp2_with fail
              go_meet
              exact ⟨_, _, _, _, _, _, _, _, _, _, _, _, hX, hB, hE2⟩
            · have hmk : ∀ W, (Instr.makeSlice 23 (.int .i64 201) (.int .i64 201)).run Try.prog W = .ok (.slice (some ⟨W.heap.size, 0, none⟩) 201 201) (W.alloc (.cells (madeCells #[.int .u8 0] 201) TB)) := fun W => run_make_bytes 201 (by decide) W
              have hZ := (Row.zero w2 201 (by unfold maxLen; decide)).bs
              rw [List.length_replicate] at hZ
              have s1 := run_string hZ
              have hX3 := (Below.heap_alloc w2 (.cells (madeCells #[.int .u8 0] 201) TB) _ (lt_of_heap hX)).trans hX
              have hE3 := hE2.alloc (.cells (madeCells #[.int .u8 0] 201) TB)
              have hB3 := hB.alloc (.cells (madeCells #[.int .u8 0] 201) TB)
              have c1 := cells_at hX3 1
              have f1 := frozen_at hX3 1
              simp only [ovCells, List.getElem?_toArray, List.getElem?_cons_zero, List.getElem?_cons_succ] at c1
              have HS := Lib.hid (SomeOp.set (i := 1) (v := (.string (strOf (List.replicate 201 0)))) hX3 hgX hE3 ((m : Int) - 1) (List.replicate 201 0) [47, 98] 1 2 3 4 5 (some ⟨g, 0, none⟩) 3 3 [120, 121, 122] rfl (Bs.other hB3 (Nat.ne_of_lt hgx) _))
              generalize strOf (List.replicate 201 0) = str at *
              clear hZ hX3 hE3 hB3
              go_wp2_with fail
              go_meet
              exact HS.out
            · have hmk : ∀ W, (Instr.makeSlice 23 (.int .i64 201) (.int .i64 201)).run Try.prog W = .ok (.slice (some ⟨W.heap.size, 0, none⟩) 201 201) (W.alloc (.cells (madeCells #[.int .u8 0] 201) TB)) := fun W => run_make_bytes 201 (by decide) W
              have hZ := (Row.zero w2 201 (by unfold maxLen; decide)).bs
              rw [List.length_replicate] at hZ
              have s1 := run_string hZ
              have hX3 := (Below.heap_alloc w2 (.cells (madeCells #[.int .u8 0] 201) TB) _ (lt_of_heap hX)).trans hX
              have hE3 := hE2.alloc (.cells (madeCells #[.int .u8 0] 201) TB)
              have hB3 := hB.alloc (.cells (madeCells #[.int .u8 0] 201) TB)
              have c2 := cells_at hX3 2
              have f2 := frozen_at hX3 2
              simp only [ovCells, List.getElem?_toArray, List.getElem?_cons_zero, List.getElem?_cons_succ] at c2
              have HS := Lib.hid (SomeOp.set (i := 2) (v := (.string (strOf (List.replicate 201 0)))) hX3 hgX hE3 ((m : Int) - 1) [47, 97] (List.replicate 201 0) 1 2 3 4 5 (some ⟨g, 0, none⟩) 3 3 [120, 121, 122] rfl (Bs.other hB3 (Nat.ne_of_lt hgx) _))
              generalize strOf (List.replicate 201 0) = str at *
              clear hZ hX3 hE3 hB3
              go_wp2_with fail
              go_meet
              exact HS.out
            · have HS := Lib.hid (SomeOp.set (i := 3) (v := (.int .i64 65536)) hX hgX hE2 ((m : Int) - 1) [47, 97] [47, 98] 65536 2 3 4 5 (some ⟨g, 0, none⟩) 3 3 [120, 121, 122] rfl (Bs.other hB (Nat.ne_of_lt hgx) _))
              go_wp2_with fail
              go_meet
              exact HS.out
            · have HS := Lib.hid (SomeOp.set (i := 4) (v := (.int .i64 (-1))) hX hgX hE2 ((m : Int) - 1) [47, 97] [47, 98] 1 (-1) 3 4 5 (some ⟨g, 0, none⟩) 3 3 [120, 121, 122] rfl (Bs.other hB (Nat.ne_of_lt hgx) _))
              go_wp2_with fail
              go_meet
              exact HS.out
            · have HS := Lib.hid (SomeOp.set (i := 5) (v := (.int .i64 65536)) hX hgX hE2 ((m : Int) - 1) [47, 97] [47, 98] 1 2 65536 4 5 (some ⟨g, 0, none⟩) 3 3 [120, 121, 122] rfl (Bs.other hB (Nat.ne_of_lt hgx) _))
              go_wp2_with fail
              go_meet
              exact HS.out
            · have HS := Lib.hid (SomeOp.set (i := 7) (v := (.int .i64 (-1))) hX hgX hE2 ((m : Int) - 1) [47, 97] [47, 98] 1 2 3 4 (-1) (some ⟨g, 0, none⟩) 3 3 [120, 121, 122] rfl (Bs.other hB (Nat.ne_of_lt hgx) _))
              go_wp2_with fail
              go_meet
              exact HS.out
            · have hmk : ∀ W, (Instr.makeSlice 23 (.int .i64 601) (.int .i64 601)).run Try.prog W = .ok (.slice (some ⟨W.heap.size, 0, none⟩) 601 601) (W.alloc (.cells (madeCells #[.int .u8 0] 601) TB)) := fun W => run_make_bytes 601 (by decide) W
              have hZ := (Row.zero w2 601 (by unfold maxLen; decide)).bs
              rw [List.length_replicate] at hZ
              have hX3 := (Below.heap_alloc w2 (.cells (madeCells #[.int .u8 0] 601) TB) _ (lt_of_heap hX)).trans hX
              have hE3 := hE2.alloc (.cells (madeCells #[.int .u8 0] 601) TB)
              have c8 := cells_at hX3 8
              have f8 := frozen_at hX3 8
              simp only [ovCells, List.getElem?_toArray, List.getElem?_cons_zero, List.getElem?_cons_succ] at c8
              have HS := Lib.hid (SomeOp.set (i := 8) (v := (.slice (some ⟨w2.heap.size, 0, none⟩) 601 601)) hX3 hgX hE3 ((m : Int) - 1) [47, 97] [47, 98] 1 2 3 4 5 (some ⟨w2.heap.size, 0, none⟩) 601 601 (List.replicate 601 0) rfl (Bs.other hZ (Nat.ne_of_gt (lt_of_heap hX)) _))
              clear hZ hX3 hE3
              go_wp2_with fail
              go_meet
              exact HS.out
            · have HS := Lib.hid (SomeOp.set (i := 6) (v := (.int .u64 18446744073709551615)) hX hgX hE2 ((m : Int) - 1) [47, 97] [47, 98] 1 2 3 18446744073709551615 5 (some ⟨g, 0, none⟩) 3 3 [120, 121, 122] rfl (Bs.other hB (Nat.ne_of_lt hgx) _))
              go_wp2_with fail
              go_meet
              exact HS.out
          case rest =>
            obtain ⟨k', ps, ts, fd, at_, n, til, sn, da, dl, dc, ds, hXc, hBc, hEc⟩ := hcut
            clear hX hB hE2 hEj hgx HW
            have HR := Lib.hid (renc_any k' ps ts fd at_ n til sn da dl dc ds wc hBc)
            have hlen := opEnc_len ⟨k', ps, ts, fd, at_, n, til, sn, ds⟩
            generalize opEnc ⟨k', ps, ts, fd, at_, n, til, sn, ds⟩ = E at *
            obtain ⟨L, r⟩ := E
            simp only at HR hlen
            unfold ovCells at HR
            have HX := Lib.hid hXc
            have Dc := cells_at hXc
            (try unfold ovCells at Dc)
            have c0 := Dc 0; have c1 := Dc 1; have c2 := Dc 2; have c3 := Dc 3; have c4 := Dc 4; have c5 := Dc 5; have c6 := Dc 6; have c7 := Dc 7; have c8 := Dc 8
            simp only [List.getElem?_toArray, List.getElem?_cons_zero, List.getElem?_cons_succ] at c0 c1 c2 c3 c4 c5 c6 c7 c8
            clear Dc
            clear hXc
            go_wp2_with fail
            refine HR.out.mono ?_
            rintro e w3 ⟨v3, rfl, ho3, hb3⟩
            have hE3 := hEc.step hb3
            have hX3 := (hb3.block _ (lt_of_heap HX.out)).trans HX.out
            have hB3 := hBc.below hb3
            obtain ⟨N, hN⟩ : ∃ q, L.length = q := ⟨_, rfl⟩
            rw [hN] at hlen
            obtain ⟨a3, m3, rfl, hL3⟩ := ho3.bsn hN
            have HN := Lib.hid hN
            clear c0 c1 c2 c3 c4 c5 c6 c7 c8 HX HR hEc hBc ho3 hb3 hN
            have HSM := Lib.hid (law15_same k' ps ts fd at_ n til sn da dl dc ds w3 hB3)
            unfold ovCells at HSM
            have Dc := cells_at hX3
            (try unfold ovCells at Dc)
            have c0 := Dc 0; have c1 := Dc 1; have c2 := Dc 2; have c3 := Dc 3; have c4 := Dc 4; have c5 := Dc 5; have c6 := Dc 6; have c7 := Dc 7; have c8 := Dc 8
            simp only [List.getElem?_toArray, List.getElem?_cons_zero, List.getElem?_cons_succ] at c0 c1 c2 c3 c4 c5 c6 c7 c8
            clear Dc
            clear hX3 hB3
            go_wp2_with fail
            refine HSM.out.mono ?_
            rintro e w4 ⟨rfl, hb4⟩
            have hE4 := hE3.step hb4
            have hL4 := hL3.below hb4
            clear c0 c1 c2 c3 c4 c5 c6 c7 c8 HSM hE3 hL3 hb4
            go_wp2_with fail
            refine (law15_read a3 N m3 L w4 hL4 (by unfold big; omega)).mono ?_
            rintro e w5 ⟨rfl, hb5⟩
            have hE5 := hE4.step hb5
            have hL5 := hL4.below hb5
            clear hE4 hL4 hb5
            have hO := Own.empty w5
            have hL5a := hL5.alloc (.cells #[] TB)
            go_wp2_with (at_builtin; refine wpList_append_w ?x1 _ _ rfl (w5.heap.size) _ [] rfl hO a3 N m3 L rfl hL5a ?x3 (by simp) ?xk)
            case x3 => simp; omega
            intro v6 w6 ho6 hg6 _
            have hb6 : Below w5.heap.size w5 w6 := (((Ext.refl w5).alloc (.cells #[] TB)).grown hg6 hO.blk).1
            have hB6 := Bs.newRow w6 #[.int .u8 0] TB (0, 0) 1 1 [0] rfl (Nat.le_refl _) (by simp [maxLen]) rfl
            clear hO hL5a hg6
            go_wp2_with (at_builtin; refine wpList_append_w ?y1 _ _ rfl (w5.heap.size) v6 L rfl (ho6.alloc _) (some ⟨w6.heap.size, 0, none⟩) 1 1 [0] rfl hB6 ?y3 ?y4 ?yk)
            case y3 => rw [HN.out]; omega
            case y4 => have := hb6.size; simp; omega
            intro v7 w7 ho7 hg7 _
            have hb7 : Below w5.heap.size w5 w7 := (Below.grown (Below.alloc hb6 hb6.size (.cells #[.int .u8 0] TB)) hg7 (by have := hb6.size; simp; omega) ho6.blk)
            have hE7 := hE5.step hb7
            have hL7 := hL5.below hb7
            obtain ⟨N2, hN2⟩ : ∃ q, (L ++ [0]).length = q := ⟨_, rfl⟩
            have hN2l : N2 ≤ 1101 := by rw [← hN2, List.length_append, HN.out]; simp; omega
            obtain ⟨a7, m7, rfl, hB7⟩ := ho7.bsn hN2
            clear hE5 hL5 ho6 hB6 hb6 hb7 hg7 ho7 hN2
            go_wp2_with fail
            refine (law15_read a7 N2 m7 _ _ hB7 (by unfold big; omega)).mono ?_
            rintro e w8 ⟨rfl, hb8⟩
            have hE8 := hE7.step hb8
            have hL8 := hL7.below hb8
            clear hE7 hL7 hB7 hb8
            by_cases hN0 : N = 0
            · have hn0 : ¬ (0 : Int) < (N : Int) := by omega
              clear hN0
              go_wp2_with fail
              go_roundw
              case rel => exact ⟨j + 1, by omega, by go_num, hE8⟩
              case measure => simp [intOf]; omega
            · have hn0 : (0 : Int) < (N : Int) := by omega
              have hw1 : IntKind.i64.wrap ((N : Int) - 1) = ((N - 1 : Nat) : Int) := by rw [IntWalk.i64_in _ (by omega)]; omega
              have hT := hL8.take (k := N - 1) (by omega)
              have hNm : N ≤ m3 := hL8.2.1
              obtain ⟨N3, hN3⟩ : ∃ q, q = N - 1 := ⟨_, rfl⟩
              rw [← hN3] at hw1 hT
              have q0 : (0 : Int) ≤ (N3 : Int) := by omega
              have q1 : (N3 : Int) ≤ (m3 : Int) := by omega
              have hN3l : N3 ≤ 1100 := by omega
              clear hN0 hN3 hNm
              go_wp2_with fail
              refine (law15_read a3 N3 m3 _ _ hT (by unfold big; omega)).mono ?_
              rintro e w9 ⟨rfl, hb9⟩
              have hE9 := hE8.step hb9
              clear hT hw1
              go_wp2_with fail
              go_roundw
              case rel => exact ⟨j + 1, by omega, by go_num, hE9⟩
              case measure => simp [intOf]; omega
        · obtain rfl : j = 9 := by omega
          go_wp2_with fail
          go_roundw
          case rel => exact ⟨m + 1, by omega, by congr 1; omega, hEj⟩
          case measure => simp [intOf]; omega
    · obtain rfl : m = 21 := by omega
      go_wp2_with fail
      go_loopw [6] (fun i wx => ∃ j : Nat, j ≤ 8 ∧ i = .int .i64 (j : Int) ∧ Ext H w wx) (fun i _ => 8 - (intOf i).toNat)
      case atStart => exact ⟨0, by omega, rfl, hE⟩
      case round =>
        obtain ⟨j, hj, rfl, hEj⟩ := hrel
        clear hE
        by_cases hlj : j < 8
        · have hj0 : (0 : Int) ≤ (j : Int) := by omega
          have hj9 : (j : Int) < 8 := by omega
          obtain ⟨g, hg⟩ : ∃ g, g = wr.heap.size := ⟨_, rfl⟩
          obtain ⟨w1, hw1⟩ : ∃ W, W = wr.alloc (.cells #[.int .u8 100] TB (1, 2)) := ⟨_, rfl⟩
          have hB1 : Bs w1 (some ⟨g, 0, none⟩) 1 1 [100] := by rw [hw1, hg]; exact Bs.newRow wr _ TB (1, 2) 1 1 [100] rfl (Nat.le_refl _) (by simp [maxLen]) rfl
          have hs1 : w1.heap.size = g + 1 := by rw [hw1, hg]; simp
          have hE1 : Ext H w w1 := by rw [hw1]; exact hEj.alloc _
          obtain ⟨w2, hw2⟩ : ∃ W, W = w1.alloc (.cells #[.string ⟨#[97]⟩, .string ⟨#[]⟩] TST) := ⟨_, rfl⟩
          have hS2 : Ss w2 (some ⟨g + 1, 0, none⟩) 2 2 [[97], []] := by
            rw [hw2, ← hs1]
            refine ⟨rfl, Nat.le_refl _, by simp [maxLen], .inr ⟨_, _, rfl, by simp, fun i hi => ?_⟩⟩
            rw [Nat.zero_add, World.cell?_alloc_mark]
            have : i = 0 ∨ i = 1 := by simp at hi; omega
            rcases this with rfl | rfl <;> rfl
          have hs2 : w2.heap.size = g + 1 + 1 := by rw [hw2]; simp [hs1]
          have hE2 : Ext H w w2 := by rw [hw2]; exact hE1.alloc _
          have hB2 : Bs w2 (some ⟨g, 0, none⟩) 1 1 [100] := by rw [hw2]; exact hB1.alloc _
          obtain ⟨w3, hw3⟩ : ∃ W, W = w2.alloc (.cells (rpCells 5 7 (some ⟨g, 0, none⟩) 1 1 (some ⟨g + 1, 0, none⟩) 2 2 ⟨0, 1, 1, 0, 0, false⟩) 45) := ⟨_, rfl⟩
          have hX : w3.heap[g + 1 + 1]? = some (.cells (rpCells 5 7 (some ⟨g, 0, none⟩) 1 1 (some ⟨g + 1, 0, none⟩) 2 2 ⟨0, 1, 1, 0, 0, false⟩) 45 (0, 0)) := by rw [hw3, ← hs2]; exact heap_alloc_new w2 _
          have hB : Bs w3 (some ⟨g, 0, none⟩) 1 1 [100] := by rw [hw3]; exact hB2.alloc _
          have hS : Ss w3 (some ⟨g + 1, 0, none⟩) 2 2 [[97], []] := by rw [hw3]; exact hS2.alloc _
          have hE3 : Ext H w w3 := by rw [hw3]; exact hE2.alloc _
          have hgX : H ≤ g + 1 + 1 := by have := hEj.2; omega
          have HW := Lib.hid (And.intro hg (And.intro hw1 (And.intro hw2 hw3)))
          unfold rpCells at HW
          rw [show ((0 : Nat) : Int) = 0 from rfl] at HW
          clear hg hw1 hw2 hw3 hB1 hs1 hE1 hS2 hs2 hE2 hB2
          go_upto_block 7 with fail
          rw [← HW.out.1, ← HW.out.2.1]
          rw [← HW.out.2.2.1]
          rw [← HW.out.2.2.2]
          go_cut [] (fun wx => SomeRp H w wx (g + 1 + 1))
          case first =>
            have hjc : j = 0 ∨ j = 1 ∨ j = 2 ∨ j = 3 ∨ j = 4 ∨ j = 5 ∨ j = 6 ∨ j = 7 := by omega
            have cX := cells_at hX
            have c0 := cX 0; have c1 := cX 1; have c2 := cX 2; have c3 := cX 3; have c4 := cX 4; have c5 := cX 5; have c6 := cX 6; have c7 := cX 7; have c8 := cX 8; have c9 := cX 9
            have f := frozen_at hX
            have f0 := f 0; have f1 := f 1; have f2 := f 2; have f3 := f 3; have f4 := f 4; have f5 := f 5; have f6 := f 6; have f7 := f 7; have f8 := f 8; have f9 := f 9
            simp only [rpCells, List.getElem?_toArray, List.getElem?_cons_zero, List.getElem?_cons_succ] at c0 c1 c2 c3 c4 c5 c6 c7 c8 c9
            clear cX f hj0 hj9
            rcases hjc with rfl | rfl | rfl | rfl | rfl | rfl | rfl | rfl
            · have HS := Lib.hid (show SomeRp H w w3 (g + 1 + 1) from ⟨5, 7, some ⟨g, 0, none⟩, 1, 1, [100], some ⟨g + 1, 0, none⟩, 2, 2, [[97], []], ⟨0, 1, 1, 0, 0, false⟩, hX, hB, hS, hE3⟩)
              go_wp2_with fail
              go_meet
              exact HS.out
            · have HS := Lib.hid (show SomeRp H w (w3.setCell ⟨g + 1 + 1, 0, none⟩ (.int .i64 256)) (g + 1 + 1) from ⟨256, 7, some ⟨g, 0, none⟩, 1, 1, [100], some ⟨g + 1, 0, none⟩, 2, 2, [[97], []], ⟨0, 1, 1, 0, 0, false⟩, cells_set (k := 0) (y := (.int .i64 256)) hX, Bs.other hB (by omega) _, Ss.other hS (by omega) _, hE3.setCell (p := ⟨g + 1 + 1, 0, none⟩) hgX (.int .i64 256)⟩)
              go_wp2_with fail
              go_meet
              exact HS.out
            · have HS := Lib.hid (show SomeRp H w (w3.setCell ⟨g + 1 + 1, 1, none⟩ (.int .i64 (-1))) (g + 1 + 1) from ⟨5, -1, some ⟨g, 0, none⟩, 1, 1, [100], some ⟨g + 1, 0, none⟩, 2, 2, [[97], []], ⟨0, 1, 1, 0, 0, false⟩, cells_set (k := 1) (y := (.int .i64 (-1))) hX, Bs.other hB (by omega) _, Ss.other hS (by omega) _, hE3.setCell (p := ⟨g + 1 + 1, 1, none⟩) hgX (.int .i64 (-1))⟩)
              go_wp2_with fail
              go_meet
              exact HS.out
            · have hmk := run_make_strs
              have hX4 := (Below.heap_alloc w3 (.cells (madeCells #[.string ⟨#[]⟩] 256) TST) _ (lt_of_heap hX)).trans hX
              have c3 := cells_at hX4 3
              have f3 := frozen_at hX4 3
              simp only [rpCells, List.getElem?_toArray, List.getElem?_cons_zero, List.getElem?_cons_succ] at c3
              have HS := Lib.hid (show SomeRp H w ((w3.alloc (.cells (madeCells #[.string ⟨#[]⟩] 256) TST)).setCell ⟨g + 1 + 1, 3, none⟩ (.slice (some ⟨w3.heap.size, 0, none⟩) 256 256)) (g + 1 + 1) from ⟨5, 7, some ⟨g, 0, none⟩, 1, 1, [100], some ⟨w3.heap.size, 0, none⟩, 256, 256, List.replicate 256 [], ⟨0, 1, 1, 0, 0, false⟩, cells_set (k := 3) (y := (.slice (some ⟨w3.heap.size, 0, none⟩) 256 256)) hX4, Bs.other (hB.alloc _) (by omega) _, Ss.other (Ss.zero w3) (Nat.ne_of_gt (lt_of_heap hX)) _, (hE3.alloc _).setCell (p := ⟨g + 1 + 1, 3, none⟩) hgX (.slice (some ⟨w3.heap.size, 0, none⟩) 256 256)⟩)
              clear hX4
              go_wp2_with fail
              go_meet
              exact HS.out
            · have hX4 := (Below.heap_alloc w3 (.cells #[.string ⟨#[48, 49, 50, 51, 52, 53, 54, 55, 56, 57, 97, 98, 99, 100, 101, 102, 103]⟩] TST) _ (lt_of_heap hX)).trans hX
              have c3 := cells_at hX4 3
              have f3 := frozen_at hX4 3
              simp only [rpCells, List.getElem?_toArray, List.getElem?_cons_zero, List.getElem?_cons_succ] at c3
              have hS4 : Ss (w3.alloc (.cells #[.string ⟨#[48, 49, 50, 51, 52, 53, 54, 55, 56, 57, 97, 98, 99, 100, 101, 102, 103]⟩] TST)) (some ⟨w3.heap.size, 0, none⟩) 1 1 [[48, 49, 50, 51, 52, 53, 54, 55, 56, 57, 97, 98, 99, 100, 101, 102, 103]] := ⟨rfl, Nat.le_refl _, by simp [maxLen], .inr ⟨_, _, rfl, by simp, fun i hi => by
                obtain rfl : i = 0 := by simp at hi; omega
                rw [World.cell?_alloc_mark]; rfl⟩⟩
              have HS := Lib.hid (show SomeRp H w ((w3.alloc (.cells #[.string ⟨#[48, 49, 50, 51, 52, 53, 54, 55, 56, 57, 97, 98, 99, 100, 101, 102, 103]⟩] TST)).setCell ⟨g + 1 + 1, 3, none⟩ (.slice (some ⟨w3.heap.size, 0, none⟩) 1 1)) (g + 1 + 1) from ⟨5, 7, some ⟨g, 0, none⟩, 1, 1, [100], some ⟨w3.heap.size, 0, none⟩, 1, 1, _, ⟨0, 1, 1, 0, 0, false⟩, cells_set (k := 3) (y := (.slice (some ⟨w3.heap.size, 0, none⟩) 1 1)) hX4, Bs.other (hB.alloc _) (by omega) _, Ss.other hS4 (Nat.ne_of_gt (lt_of_heap hX)) _, (hE3.alloc _).setCell (p := ⟨g + 1 + 1, 3, none⟩) hgX (.slice (some ⟨w3.heap.size, 0, none⟩) 1 1)⟩)
              clear hX4 hS4
              go_wp2_with fail
              go_meet
              exact HS.out
            · have HS := Lib.hid (show SomeRp H w (w3.setCell ⟨g + 1 + 1, 5, none⟩ (.int .i64 3)) (g + 1 + 1) from ⟨5, 7, some ⟨g, 0, none⟩, 1, 1, [100], some ⟨g + 1, 0, none⟩, 2, 2, [[97], []], ⟨0, 3, 1, 0, 0, false⟩, cells_set (k := 5) (y := (.int .i64 3)) hX, Bs.other hB (by omega) _, Ss.other hS (by omega) _, hE3.setCell (p := ⟨g + 1 + 1, 5, none⟩) hgX (.int .i64 3)⟩)
              go_wp2_with fail
              go_meet
              exact HS.out
            · have HS := Lib.hid (show SomeRp H w ((((((w3.setCell ⟨g + 1 + 1, 4, none⟩ (.int .i64 0)).setCell ⟨g + 1 + 1, 5, none⟩ (.int .i64 0)).setCell ⟨g + 1 + 1, 6, none⟩ (.int .i64 0)).setCell ⟨g + 1 + 1, 7, none⟩ (.int .i64 0)).setCell ⟨g + 1 + 1, 8, none⟩ (.int .u64 0)).setCell ⟨g + 1 + 1, 9, none⟩ (.bool false)) (g + 1 + 1) from ⟨5, 7, some ⟨g, 0, none⟩, 1, 1, [100], some ⟨g + 1, 0, none⟩, 2, 2, [[97], []], ⟨0, 0, 0, 0, 0, false⟩, cells_set (cells_set (cells_set (cells_set (cells_set (cells_set hX))))), Bs.other (Bs.other (Bs.other (Bs.other (Bs.other (Bs.other (hB) (by omega) _) (by omega) _) (by omega) _) (by omega) _) (by omega) _) (by omega) _, Ss.other (Ss.other (Ss.other (Ss.other (Ss.other (Ss.other (hS) (by omega) _) (by omega) _) (by omega) _) (by omega) _) (by omega) _) (by omega) _, ((((((hE3).setCell (p := ⟨g + 1 + 1, 4, none⟩) hgX (.int .i64 0)).setCell (p := ⟨g + 1 + 1, 5, none⟩) hgX (.int .i64 0)).setCell (p := ⟨g + 1 + 1, 6, none⟩) hgX (.int .i64 0)).setCell (p := ⟨g + 1 + 1, 7, none⟩) hgX (.int .i64 0)).setCell (p := ⟨g + 1 + 1, 8, none⟩) hgX (.int .u64 0)).setCell (p := ⟨g + 1 + 1, 9, none⟩) hgX (.bool false)⟩)
              go_wp2_with fail
              go_meet
              exact HS.out
            · have hmk : ∀ W, (Instr.makeSlice 23 (.int .i64 65536) (.int .i64 65536)).run Try.prog W = .ok (.slice (some ⟨W.heap.size, 0, none⟩) 65536 65536) (W.alloc (.cells (madeCells #[.int .u8 0] 65536) TB)) := fun W => run_make_bytes 65536 (by decide) W
              have hX4 := (Below.heap_alloc w3 (.cells (madeCells #[.int .u8 0] 65536) TB) _ (lt_of_heap hX)).trans hX
              have c2 := cells_at hX4 2
              have f2 := frozen_at hX4 2
              simp only [rpCells, List.getElem?_toArray, List.getElem?_cons_zero, List.getElem?_cons_succ] at c2
              have hZ := (Row.zero w3 65536 (by unfold maxLen; decide)).bs
              rw [List.length_replicate] at hZ
              have HS := Lib.hid (show SomeRp H w ((w3.alloc (.cells (madeCells #[.int .u8 0] 65536) TB)).setCell ⟨g + 1 + 1, 2, none⟩ (.slice (some ⟨w3.heap.size, 0, none⟩) 65536 65536)) (g + 1 + 1) from ⟨5, 7, some ⟨w3.heap.size, 0, none⟩, 65536, 65536, List.replicate 65536 0, some ⟨g + 1, 0, none⟩, 2, 2, [[97], []], ⟨0, 1, 1, 0, 0, false⟩, cells_set (k := 2) (y := (.slice (some ⟨w3.heap.size, 0, none⟩) 65536 65536)) hX4, Bs.other hZ (Nat.ne_of_gt (lt_of_heap hX)) _, Ss.other (hS.alloc _) (by omega) _, (hE3.alloc _).setCell (p := ⟨g + 1 + 1, 2, none⟩) hgX (.slice (some ⟨w3.heap.size, 0, none⟩) 65536 65536)⟩)
              clear hX4 hZ
              go_wp2_with fail
              go_meet
              exact HS.out
          case rest =>
            obtain ⟨e, n, da, dl, dc, ds, na, nl, nc, ls, nd, hXc, hBc, hSc, hEc⟩ := hcut
            clear hX hB hS hE3 hEj HW
            have HR := Lib.hid (rrpenc_any e n da dl dc ds na nl nc ls nd wc hBc hSc)
            have hlen := rpEnc_len ⟨e, n, ds, ls, nd⟩
            generalize rpEnc ⟨e, n, ds, ls, nd⟩ = E at *
            obtain ⟨L, r⟩ := E
            simp only at HR hlen
            unfold rpCells at HR
            have HX := Lib.hid hXc
            have Dc := cells_at hXc
            (try unfold rpCells at Dc)
            have c0 := Dc 0; have c1 := Dc 1; have c2 := Dc 2; have c3 := Dc 3; have c4 := Dc 4; have c5 := Dc 5; have c6 := Dc 6; have c7 := Dc 7; have c8 := Dc 8; have c9 := Dc 9
            simp only [List.getElem?_toArray, List.getElem?_cons_zero, List.getElem?_cons_succ] at c0 c1 c2 c3 c4 c5 c6 c7 c8 c9
            clear Dc
            clear hXc
            go_wp2_with fail
            refine HR.out.mono ?_
            rintro e' w3 ⟨v3, rfl, ho3, hb3⟩
            have hE3 := hEc.step hb3
            have hX3 := (hb3.block _ (lt_of_heap HX.out)).trans HX.out
            have hB3 := hBc.below hb3
            have hS3 := hSc.below hb3
            obtain ⟨N, hN⟩ : ∃ q, L.length = q := ⟨_, rfl⟩
            rw [hN] at hlen
            obtain ⟨a3, m3, rfl, hL3⟩ := ho3.bsn hN
            have HN := Lib.hid hN
            clear c0 c1 c2 c3 c4 c5 c6 c7 c8 c9 HX HR hEc hBc hSc ho3 hb3 hN
            have HSM := Lib.hid (law15_samerp e n da dl dc ds na nl nc ls nd w3 hB3 hS3)
            unfold rpCells at HSM
            have Dc := cells_at hX3
            (try unfold rpCells at Dc)
            have c0 := Dc 0; have c1 := Dc 1; have c2 := Dc 2; have c3 := Dc 3; have c4 := Dc 4; have c5 := Dc 5; have c6 := Dc 6; have c7 := Dc 7; have c8 := Dc 8; have c9 := Dc 9
            simp only [List.getElem?_toArray, List.getElem?_cons_zero, List.getElem?_cons_succ] at c0 c1 c2 c3 c4 c5 c6 c7 c8 c9
            clear Dc
            clear hX3 hB3 hS3
            go_wp2_with fail
            refine HSM.out.mono ?_
            rintro e' w4 ⟨rfl, hb4⟩
            have hE4 := hE3.step hb4
            have hL4 := hL3.below hb4
            clear c0 c1 c2 c3 c4 c5 c6 c7 c8 c9 HSM hE3 hL3 hb4
            go_wp2_with fail
            refine (law15_readrp a3 N m3 L w4 hL4 (by unfold big; omega)).mono ?_
            rintro e' w5 ⟨rfl, hb5⟩
            have hE8 := hE4.step hb5
            have hL8 := hL4.below hb5
            clear hE4 hL4 hb5
            by_cases hN0 : N = 0
            · have hn0 : ¬ (0 : Int) < (N : Int) := by omega
              clear hN0
              go_wp2_with fail
              go_roundw
              case rel =>
                (repeat apply Exists.intro)
                exact ⟨⟨j + 1, by omega, by go_num, hE8⟩, rfl⟩
              case measure => simp [intOf]; omega
            · have hn0 : (0 : Int) < (N : Int) := by omega
              have hw1 : IntKind.i64.wrap ((N : Int) - 1) = ((N - 1 : Nat) : Int) := by rw [IntWalk.i64_in _ (by omega)]; omega
              have hT := hL8.take (k := N - 1) (by omega)
              have hNm : N ≤ m3 := hL8.2.1
              obtain ⟨N3, hN3⟩ : ∃ q, q = N - 1 := ⟨_, rfl⟩
              rw [← hN3] at hw1 hT
              have q0 : (0 : Int) ≤ (N3 : Int) := by omega
              have q1 : (N3 : Int) ≤ (m3 : Int) := by omega
              have hN3l : N3 ≤ 80000 := by omega
              clear hN0 hN3 hNm
              go_wp2_with fail
              refine (law15_readrp a3 N3 m3 _ _ hT (by unfold big; omega)).mono ?_
              rintro e' w9 ⟨rfl, hb9⟩
              have hE9 := hE8.step hb9
              clear hT hw1
              go_wp2_with fail
              go_roundw
              case rel =>
                (repeat apply Exists.intro)
                exact ⟨⟨j + 1, by omega, by go_num, hE9⟩, rfl⟩
              case measure => simp [intOf]; omega
        · obtain rfl : j = 8 := by omega
          go_wp2_with fail
          refine (law15_readrp none 0 0 [] _ (Bs.nil _) (by unfold big; decide)).mono ?_
          rintro e w4 ⟨rfl, hb4⟩
          have hE4 := hEj.step hb4
          go_wp2_with fail
          refine (law15_known _).mono ?_
          rintro e w5 ⟨rfl, hb5⟩
          go_wp2_with fail
          go_ret
          exact ⟨rfl, (hE4.step hb5).1⟩
end Go.Proofs.Ytphjdlckoddgmaa
