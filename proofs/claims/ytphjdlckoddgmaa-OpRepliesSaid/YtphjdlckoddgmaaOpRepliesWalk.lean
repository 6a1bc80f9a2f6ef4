/- The walk of OpReplies. -/
import Derived.Test.YtphjdlckoddgmaaRpLaw
import Derived.Test.YtphjdlckoddgmaaRpArg
import Derived.Test.YtphjdlckoddgmaaOpTame
import Derived.Test.YtphjdlckoddgmaaHeldB
import Derived.Deep.DeepCutAuto
namespace Go.Proofs.Ytphjdlckoddgmaa
open Go.RowKit

theorem cells_ten {w : World} {b : Nat} {e n : Int} {da : Option Addr} {dl dc : Nat} {na : Option Addr} {nl nc : Nat} {nd : Nd} {t : TypeId} (h : w.heap[b]? = some (.cells (rpCells e n da dl dc na nl nc nd) t (0, 0))) (i : Nat) (v : Value) {C : Array Value} (hC : (rpCells e n da dl dc na nl nc nd).setIfInBounds i v = C) :
    (w.setCell ⟨b, i, none⟩ v).heap[b]? = some (.cells C t (0, 0)) := by rw [← hC]; exact cells_set h
theorem heads_take (ls : List (List UInt8)) (k : Nat) (h : k < ls.length) : (ls.take (k + 1)).map (·.take 16) = (ls.take k).map (·.take 16) ++ [ls[k].take 16] := by
  rw [List.take_succ_eq_append_getElem h, List.map_append]
  rfl

theorem Rp.bytes_bd (r : Rp) (h : r.Fine) : 0 < r.bytes.length ∧ r.bytes.length ≤ 80000 := by
  obtain ⟨⟨_, _, _, _, h5⟩, h6, _⟩ := h
  have h1 := namesBytes_len r.names h6
  have h2 := lenBytes_le r.dat
  have h3 : r.tail.length ≤ 20 := by
    unfold Rp.tail
    split
    · simp
    · have : (lenBytes r.node.bytes).length ≤ 18 := by simp [lenBytes, be_length, Nd.bytes_length]
      simp only [List.length_append, List.length_cons, List.length_nil]
      omega
  rw [Rp.bytes_eq]
  unfold Rp.head
  simp only [List.length_append, be_length]
  omega

set_option maxHeartbeats 8000000 in
set_option maxRecDepth 100000 in
theorem OpReplies_walk (v0 : Value) (v1 : Value) (v2 : Value) (v3 : Value) (w : World) (h0 : Arg Try.prog w 45 v0) (h1 : Arg Try.prog w 23 v1) (h2 : Arg Try.prog w 3 v2) (h3 : Arg Try.prog w 5 v3) :
    Calls Try.prog 6 #[v0, v1, v2, v3] w fun e w' => e = .returned (.bool true) ∧ Below w.heap.size w w' := by
  obtain ⟨e, n, da, dl, dc, ds, na, nl, nc, ls, nd, rfl, hB, hS, htil, _, _⟩ := h0.reply
  obtain ⟨ab, lb, cb, bs, rfl, hBb⟩ := h1.bytes Try.underlying23 Try.underlying5 (by kernel_rfl)
  obtain ⟨iat, rfl, _⟩ := h2.int Try.underlying3
  obtain ⟨z, rfl, hz⟩ := h3.int Try.underlying5
  obtain ⟨t, rfl⟩ : ∃ t : UInt8, (t.toNat : Int) = z := ⟨byteOf z, byteOf_toNat hz⟩
  clear h0 h1 h2 h3 hz htil
  have hlc := hB.2.1
  have hlbc := hBb.2.1
  have hlnc := hS.2.1
  have hnl := hS.1
  have HKL := Lib.hid (And.intro hB.1 hS.1)
  have hO := heap_alloc_new w (.cells (rpCells e n da dl dc na nl nc nd) 45)
  have hE0 := (Ext.refl w).alloc (.cells (rpCells e n da dl dc na nl nc nd) 45)
  obtain ⟨H, hH⟩ : ∃ H, H = w.heap.size := ⟨_, rfl⟩
  have HH := Lib.hid hH
  have hD : ∀ W, Ext H w W → Bs W da dl dc ds := fun W hb => hb.bs hH.symm hB
  have hDb : ∀ W, Ext H w W → Bs W ab lb cb bs := fun W hb => hb.bs hH.symm hBb
  have hDs : ∀ W, Ext H w W → Ss W na nl nc ls := fun W hb => hS.below (by rw [← hH]; exact hb.1)
  have hbS : ∀ b off, na = some ⟨b, off, none⟩ → 0 < nl → b < H := fun b off e h0 => by
    obtain ⟨b', off', e', hb, _⟩ := hS.at h0
    rw [e] at e'
    injection e' with e'
    injection e' with e1 e2
    rw [e1, hH]
    exact hb
  have HBS := Lib.hid hbS
  have HB := Lib.hid (And.intro hD (And.intro hDb hDs))
  clear hD hDb hDs hB hBb hS hbS
  rw [← hH] at hO hE0
  unfold rpCells at hO hE0
  go_enter Try.func6, Try.ntmps6
  unfold rpCells
  go_upto_region 1 with fail
  rw [← hH]
  clear hH
  generalize w.alloc _ = w0 at *
  have HO := Lib.hid hO
  have Dc := cells_at hO
  (try unfold rpCells at Dc)
  have c0 := Dc 0; have c1 := Dc 1; have c2 := Dc 2; have c3 := Dc 3; have c4 := Dc 4; have c5 := Dc 5; have c6 := Dc 6; have c7 := Dc 7; have c8 := Dc 8; have c9 := Dc 9
  simp only [List.getElem?_toArray, List.getElem?_cons_zero, List.getElem?_cons_succ] at c0 c1 c2 c3 c4 c5 c6 c7 c8 c9
  clear Dc
  have f3 := frozen_at hO 3
  clear hO
  go_upto_if 16 with fail
  go_cut [] (fun wx => wx.heap[H]? = some (.cells (rpCells e n da dl dc na (min nl 20) nc nd) 45 (0, 0)) ∧ Ext H w wx)
  case first =>
    by_cases hn : nl ≤ 20
    · have g1 : ¬ (20 : Int) < (nl : Int) := by omega
      have hm : min nl 20 = nl := Nat.min_eq_left hn
      have HM := Lib.hid hm
      clear hm
      go_wp2_with fail
      go_meet
      exact ⟨by rw [HM.out]; exact HO.out, hE0⟩
    · have g1 : (20 : Int) < (nl : Int) := by omega
      have hm : min nl 20 = 20 := Nat.min_eq_right (by omega)
      have HM := Lib.hid hm
      clear hm
      have g2 : (20 : Int) ≤ (nc : Int) := by omega
      go_wp2_with fail
      go_meet
      exact ⟨by rw [HM.out]; exact cells_ten HO.out 3 _ rfl, hE0.setCell (p := ⟨H, 3, none⟩) (Nat.le_refl _) _⟩
  case rest =>
    obtain ⟨hO, hE⟩ := hcut
    clear hE0 HO f3 c0 c1 c2 c3 c4 c5 c6 c7 c8 c9
    have hnl' : min nl 20 ≤ nl := Nat.min_le_left _ _
    have hn20 : min nl 20 ≤ 20 := Nat.min_le_right _ _
    generalize min nl 20 = m at *
    have HO := Lib.hid hO
    have Dc := cells_at hO
    (try unfold rpCells at Dc)
    have c0 := Dc 0; have c1 := Dc 1; have c2 := Dc 2; have c3 := Dc 3; have c4 := Dc 4; have c5 := Dc 5; have c6 := Dc 6; have c7 := Dc 7; have c8 := Dc 8; have c9 := Dc 9
    simp only [List.getElem?_toArray, List.getElem?_cons_zero, List.getElem?_cons_succ] at c0 c1 c2 c3 c4 c5 c6 c7 c8 c9
    clear Dc
    have f2 := frozen_at hO 2
    clear hO
    go_wp2_with fail
    refine (cut_any 200 da dl dc _ hlc (by decide)).mono ?_
    rintro e' w2 ⟨rfl, rfl⟩
    have hd2 : min dl 200 ≤ dl := Nat.min_le_left _ _
    have hd200 : min dl 200 ≤ 200 := Nat.min_le_right _ _
    generalize min dl 200 = d at *
    have hO3 := cells_ten HO.out 2 (.slice da d dc) (C := rpCells e n da d dc na m nc nd) rfl
    have hE3 := hE.setCell (p := ⟨H, 2, none⟩) (Nat.le_refl _) (.slice da d dc)
    clear HO hE
    go_upto_region 4 with fail
    generalize wc.setCell _ _ = w3 at *
    clear f2 c0 c1 c2 c3 c4 c5 c6 c7 c8 c9
    have HO := Lib.hid hO3
    have hlt := lt_of_heap hO3
    have Dc := cells_at hO3
    (try unfold rpCells at Dc)
    have c0 := Dc 0; have c1 := Dc 1; have c2 := Dc 2; have c3 := Dc 3; have c4 := Dc 4; have c5 := Dc 5; have c6 := Dc 6; have c7 := Dc 7; have c8 := Dc 8; have c9 := Dc 9
    simp only [List.getElem?_toArray, List.getElem?_cons_zero, List.getElem?_cons_succ] at c0 c1 c2 c3 c4 c5 c6 c7 c8 c9
    clear Dc
    have hX := heap_alloc_new w3 (.cells (rpCells e n da d dc na m nc nd) 45)
    have hE4 := hE3.alloc (.cells (rpCells e n da d dc na m nc nd) 45)
    have hO4 := (Below.heap_alloc w3 (.cells (rpCells e n da d dc na m nc nd) 45) _ hlt).trans HO.out
    unfold rpCells at hX hE4 hO4
    clear hO3 HO hE3
    go_upto_region 5 with fail
    generalize w3.alloc _ = w4 at *
    generalize w3.heap.size = X at *
    have hHX : H ≠ X := Nat.ne_of_lt hlt
    clear c0 c1 c2 c3 c4 c5 c6 c7 c8 c9
    have HO := Lib.hid hO4
    have HX := Lib.hid hX
    have Dc := cells_at hO4
    (try unfold rpCells at Dc)
    have c0 := Dc 0; have c1 := Dc 1; have c2 := Dc 2; have c3 := Dc 3; have c4 := Dc 4; have c5 := Dc 5; have c6 := Dc 6; have c7 := Dc 7; have c8 := Dc 8; have c9 := Dc 9
    simp only [List.getElem?_toArray, List.getElem?_cons_zero, List.getElem?_cons_succ] at c0 c1 c2 c3 c4 c5 c6 c7 c8 c9
    clear Dc
    have Dd := cells_at hX
    (try unfold rpCells at Dd)
    have d0 := Dd 0; have d1 := Dd 1; have d2 := Dd 2; have d3 := Dd 3; have d4 := Dd 4; have d5 := Dd 5; have d6 := Dd 6; have d7 := Dd 7; have d8 := Dd 8; have d9 := Dd 9
    simp only [List.getElem?_toArray, List.getElem?_cons_zero, List.getElem?_cons_succ] at d0 d1 d2 d3 d4 d5 d6 d7 d8 d9
    clear Dd
    have f := frozen_at hX
    have f0 := f 0; have f1 := f 1; have f3 := f 3; have f4 := f 4; have f5 := f 5; have f6 := f 6; have f7 := f 7; have f8 := f 8; have f9 := f 9
    clear hO4 hX f
    go_wp2_with fail
    refine (within_any e 0 255 _ (by decide) (by decide) (by decide)).mono ?_
    rintro e' w5 ⟨rfl, rfl⟩
    have he := within_bd e 0 255 (by decide)
    generalize within e 0 255 = e1 at *
    have hX5 := cells_ten HX.out 0 (.int .i64 e1) (C := rpCells e1 n da d dc na m nc nd) rfl
    have hO5 := cells_far (k := 0) (y := .int .i64 e1) HO.out hHX
    have hE5 := hE4.setCell (p := ⟨X, 0, none⟩) (Nat.le_of_lt hlt) (.int .i64 e1)
    clear HX HO hE4
    go_upto_region 6 with fail
    generalize w4.setCell _ _ = w5 at *
    clear c0 c1 c2 c3 c4 c5 c6 c7 c8 c9 d0 d1 d2 d3 d4 d5 d6 d7 d8 d9 f0 f1 f3 f4 f5 f6 f7 f8 f9
    have HO := Lib.hid hO5
    have HX := Lib.hid hX5
    have Dc := cells_at hO5
    (try unfold rpCells at Dc)
    have c0 := Dc 0; have c1 := Dc 1; have c2 := Dc 2; have c3 := Dc 3; have c4 := Dc 4; have c5 := Dc 5; have c6 := Dc 6; have c7 := Dc 7; have c8 := Dc 8; have c9 := Dc 9
    simp only [List.getElem?_toArray, List.getElem?_cons_zero, List.getElem?_cons_succ] at c0 c1 c2 c3 c4 c5 c6 c7 c8 c9
    clear Dc
    have Dd := cells_at hX5
    (try unfold rpCells at Dd)
    have d0 := Dd 0; have d1 := Dd 1; have d2 := Dd 2; have d3 := Dd 3; have d4 := Dd 4; have d5 := Dd 5; have d6 := Dd 6; have d7 := Dd 7; have d8 := Dd 8; have d9 := Dd 9
    simp only [List.getElem?_toArray, List.getElem?_cons_zero, List.getElem?_cons_succ] at d0 d1 d2 d3 d4 d5 d6 d7 d8 d9
    clear Dd
    have f1 := frozen_at hX5 1
    clear hO5 hX5
    go_wp2_with fail
    refine (within_any n 0 65535 _ (by decide) (by decide) (by decide)).mono ?_
    rintro e' w6 ⟨rfl, rfl⟩
    have hn1 := within_bd n 0 65535 (by decide)
    generalize within n 0 65535 = n1 at *
    have hX6 := cells_ten HX.out 1 (.int .i64 n1) (C := rpCells e1 n1 da d dc na m nc nd) rfl
    have hO6 := cells_far (k := 1) (y := .int .i64 n1) HO.out hHX
    have hE6 := hE5.setCell (p := ⟨X, 1, none⟩) (Nat.le_of_lt hlt) (.int .i64 n1)
    clear HX HO hE5
    go_upto_region 7 with fail
    generalize w5.setCell _ _ = w6 at *
    clear c0 c1 c2 c3 c4 c5 c6 c7 c8 c9 d0 d1 d2 d3 d4 d5 d6 d7 d8 d9 f1
    have hX7 : ((((((w6.setCell ⟨X, 4, none⟩ (.int .i64 0)).setCell ⟨X, 5, none⟩ (.int .i64 0)).setCell ⟨X, 6, none⟩ (.int .i64 0)).setCell ⟨X, 7, none⟩ (.int .i64 0)).setCell ⟨X, 8, none⟩ (.int .u64 0)).setCell ⟨X, 9, none⟩ (.bool false)).heap[X]? = some (.cells (rpCells e1 n1 da d dc na m nc zeroNd) 45 (0, 0)) :=
      cells_set (cells_set (cells_set (cells_set (cells_set (cells_set hX6)))))
    have hO7 : ((((((w6.setCell ⟨X, 4, none⟩ (.int .i64 0)).setCell ⟨X, 5, none⟩ (.int .i64 0)).setCell ⟨X, 6, none⟩ (.int .i64 0)).setCell ⟨X, 7, none⟩ (.int .i64 0)).setCell ⟨X, 8, none⟩ (.int .u64 0)).setCell ⟨X, 9, none⟩ (.bool false)).heap[H]? = _ :=
      cells_far (cells_far (cells_far (cells_far (cells_far (cells_far hO6 hHX) hHX) hHX) hHX) hHX) hHX
    have hE7 : Ext H w ((((((w6.setCell ⟨X, 4, none⟩ (.int .i64 0)).setCell ⟨X, 5, none⟩ (.int .i64 0)).setCell ⟨X, 6, none⟩ (.int .i64 0)).setCell ⟨X, 7, none⟩ (.int .i64 0)).setCell ⟨X, 8, none⟩ (.int .u64 0)).setCell ⟨X, 9, none⟩ (.bool false)) :=
      (((((hE6.setCell (Nat.le_of_lt hlt) _).setCell (Nat.le_of_lt hlt) _).setCell (Nat.le_of_lt hlt) _).setCell (Nat.le_of_lt hlt) _).setCell (Nat.le_of_lt hlt) _).setCell (Nat.le_of_lt hlt) _
    have Dd := cells_at hX6
    (try unfold rpCells at Dd)
    have d0 := Dd 0; have d1 := Dd 1; have d2 := Dd 2; have d3 := Dd 3; have d4 := Dd 4; have d5 := Dd 5; have d6 := Dd 6; have d7 := Dd 7; have d8 := Dd 8; have d9 := Dd 9
    simp only [List.getElem?_toArray, List.getElem?_cons_zero, List.getElem?_cons_succ] at d0 d1 d2 d3 d4 d5 d6 d7 d8 d9
    clear Dd
    have f := frozen_at hX6
    have f4 := f 4; have f5 := f 5; have f6 := f 6; have f7 := f 7; have f8 := f 8; have f9 := f 9
    clear f hX6 hO6 hE6
    go_upto_region 8 with fail
    generalize World.setCell _ ⟨X, 9, none⟩ _ = w7 at *
    clear d0 d1 d2 d3 d4 d5 d6 d7 d8 d9 f4 f5 f6 f7 f8 f9
    have hX8 := cells_ten hX7 3 (.slice none 0 0) (C := rpV ⟨e1, n1, ds.take d, [], zeroNd⟩ (.slice da d dc) (.slice none 0 0)) rfl
    have hO8 := cells_far (k := 3) (y := .slice none 0 0) hO7 hHX
    have hE8 := hE7.setCell (p := ⟨X, 3, none⟩) (Nat.le_of_lt hlt) (.slice none 0 0)
    have f3 := frozen_at hX7 3
    have d3 := cells_at hX7 3
    simp only [rpCells, List.getElem?_toArray, List.getElem?_cons_zero, List.getElem?_cons_succ] at d3
    clear hX7 hO7 hE7
    go_upto_region 9 with fail
    generalize w7.setCell _ _ = w8 at *
    clear d3 f3
    go_wp2_with fail
    go_loopw [10] (fun i wx => ∃ (k : Nat) (nv : Value), k ≤ m ∧ i = .int .i64 (k : Int) ∧ OwnS wx (X + 1) nv ((ls.take k).map (·.take 16)) ∧ wx.heap[X]? = some (.cells (rpV ⟨e1, n1, ds.take d, [], zeroNd⟩ (.slice da d dc) nv) 45 (0, 0)) ∧ wx.heap[H]? = some (.cells (rpCells e n da d dc na m nc nd) 45 (0, 0)) ∧ Ext H w wx) (fun i _ => m - (intOf i).toNat)
    case atStart => exact ⟨0, .slice none 0 0, by omega, rfl, OwnS.nil _ _, hX8, hO8, hE8⟩
    case round =>
      obtain ⟨k, nv, hk, rfl, hon, hX, hO, hE⟩ := hrel
      clear hX8 hO8 hE8
      have hlX := lt_of_heap hX
      have x3 := cells_at hX 3
      have o3 := cells_at hO 3
      simp only [rpV, rpCells, List.getElem?_toArray, List.getElem?_cons_zero, List.getElem?_cons_succ] at x3 o3
      by_cases hkm : k < m
      · have hlk : ((ls.take k).map (·.take 16)).length = k := by simp; omega
        obtain ⟨na2, nc2, rfl, _⟩ := hon.ss hlk
        obtain ⟨b, o1, rfl, hb, hc⟩ := (HB.out.2.2 _ hE).at (by omega)
        have hkl : k < ls.length := by omega
        have e3 := hc k hkl
        have hht := heads_take ls k hkl
        have HHT := Lib.hid hht
        have HHD := Lib.hid (fun w => head_any ls[k] 16 (by decide) w)
        generalize ls[k] = s at *
        have hk0 : (0 : Int) ≤ (k : Int) := by omega
        have hkm' : (k : Int) < (m : Int) := by omega
        clear hc hht
        go_upto_region 12 with fail
        refine heldB_start (fun i => [1, 3, 6, 7, 8, 9].contains i) (fun w' => w'.cell? ⟨X, 3, none⟩ = some (.slice na2 k nc2) ∧ w'.cell? ⟨H, 3, none⟩ = some (.slice (some ⟨b, o1, none⟩) m nc) ∧ w'.cell? ⟨b, o1 + k, none⟩ = some (.string (strOf s))) (by kernel_rfl) ?_ (fun hHeld => ?_)
        · go_keep
        have hon := hon.below (Below.drew (Below.refl _ _))
        have hX : wr.drew.heap[X]? = some (.cells (rpV ⟨e1, n1, ds.take d, [], zeroNd⟩ (.slice da d dc) (.slice na2 k nc2)) 45 (0, 0)) := hX
        have hO : wr.drew.heap[H]? = some (.cells (rpCells e n da d dc (some ⟨b, o1, none⟩) m nc nd) 45 (0, 0)) := hO
        have hE := hE.drew
        have hlX : X < wr.drew.heap.size := hlX
        have hb : b < wr.drew.heap.size := hb
        clear x3 o3 e3
        generalize wr.drew = w9 at *
        refine heldB_free (i := 0) (v := ?_) 44 rfl (by kernel_rfl) (by kernel_rfl) (by kernel_rfl) (by kernel_rfl) (fun _ _ _ h => h) rfl (Or.inl ⟨by rfl, ?_⟩) ?_
        rotate_left
        · intro w hSw; (try dsimp only at hSw); go_simp; (try with_reducible rfl)
        simp only [List.set_cons_zero, List.set_cons_succ]
        refine heldB_free (i := 2) (v := ?_) 46 rfl (by kernel_rfl) (by kernel_rfl) (by kernel_rfl) (by kernel_rfl) (fun _ _ _ h => h) rfl (Or.inl ⟨by rfl, ?_⟩) ?_
        rotate_left
        · intro w hSw; (try dsimp only at hSw); go_simp; (try with_reducible rfl)
        simp only [List.set_cons_zero, List.set_cons_succ]
        refine heldB_free (i := 4) (v := ?_) 48 rfl (by kernel_rfl) (by kernel_rfl) (by kernel_rfl) (by kernel_rfl) (fun _ _ _ h => h) rfl (Or.inl ⟨by rfl, ?_⟩) ?_
        rotate_left
        · intro w hSw; (try dsimp only at hSw); go_simp; (try with_reducible rfl)
        simp only [List.set_cons_zero, List.set_cons_succ]
        refine heldB_take (i := 3) (v := ?_) 47 rfl (by kernel_rfl) (by kernel_rfl) (by kernel_rfl) (by kernel_rfl) (fun _ _ _ h => h) rfl (by assumption) (Or.inl ⟨by rfl, ?_⟩) ?_
        rotate_left
        · intro w hSw; (try dsimp only at hSw); go_simp; (try with_reducible rfl)
        simp only [List.set_cons_zero, List.set_cons_succ]
        refine heldB_free (i := 5) (v := ?_) 49 rfl (by kernel_rfl) (by kernel_rfl) (by kernel_rfl) (by kernel_rfl) (fun _ _ _ h => h) rfl (Or.inl ⟨by rfl, ?_⟩) ?_
        rotate_left
        · intro w hSw; (try dsimp only at hSw); go_simp; (try with_reducible rfl)
        simp only [List.set_cons_zero, List.set_cons_succ]
        refine heldB_take (i := 6) (v := ?_) 50 rfl (by kernel_rfl) (by kernel_rfl) (by kernel_rfl) (by kernel_rfl) (fun _ _ _ h => h) rfl (by assumption) (Or.inl ⟨by rfl, ?_⟩) ?_
        rotate_left
        · intro w hSw; (try dsimp only at hSw); go_simp; (try with_reducible rfl)
        simp only [List.set_cons_zero, List.set_cons_succ]
        refine heldB_take (i := 1) (v := ?_) 45 rfl (by kernel_rfl) (by kernel_rfl) (by kernel_rfl) (by kernel_rfl) (fun _ _ _ h => h) rfl (by assumption) (Or.inl ⟨by rfl, ?_⟩) ?_
        rotate_left
        · intro w hSw; (try dsimp only at hSw); go_simp; (try with_reducible rfl)
        simp only [List.set_cons_zero, List.set_cons_succ]
        refine heldB_one 7 (by kernel_rfl) rfl (fun K hK => ?_)
        go_simp
        refine (HHD.out _).mono ?_
        rintro e' w9x ⟨rfl, rfl⟩
        go_wp2_with fail
        refine hK.out _ _ (fun _ => hHeld) ?_
        clear hK K HHD
        generalize s.take 16 = x at *
        refine heldB_one 8 (by kernel_rfl) rfl (fun K hK => ?_)
        go_simp
        have hbl : Below w9.heap.size w9 (w9.alloc (.cells #[.string (strOf x)] TST)) := Below.alloc (Below.refl _ _) (Nat.le_refl _) _
        refine hK.out _ _ (fun _ => ⟨(hbl.cell (p := ⟨X, 3, none⟩) hlX).trans hHeld.1, (hbl.cell (p := ⟨H, 3, none⟩) (lt_of_heap hO)).trans hHeld.2.1, (hbl.cell (p := ⟨b, o1 + k, none⟩) hb).trans hHeld.2.2⟩) ?_
        clear hK K hbl
        refine heldB_one 9 (by kernel_rfl) rfl (fun K hK => ?_)
        have hlk2 : ((ls.take k).map (·.take 16)).length + 1 ≤ 1000000 := by omega
        refine step_append_str rfl (.tmp 45) (.tmp 52) rfl rfl (X + 1) (.slice na2 k nc2) _ rfl hon x hlk2 (by omega) (fun v9 wB h9 hg9 ho9 => ?_)
        have hcB : Chg (fun q => X < q) w9 wB := ((Chg.refl (fun q => X < q) w9).alloc _).grown hg9 (fun q _ hq => (hon.lt q hq).1)
        have hXB := (hcB.block X hlX (Nat.lt_irrefl X)).trans hX
        have hOB := (hcB.block H (lt_of_heap hO) (Nat.not_lt.2 (Nat.le_of_lt hlt))).trans hO
        have hEB := hE.to (hcB.below hE.2 (fun _ _ hq => Nat.le_of_lt (Nat.lt_trans hlt hq)))
        have hbH : b < H := HBS.out b o1 rfl (by omega)
        have hcb : wB.cell? ⟨b, o1 + k, none⟩ = some (.string (strOf s)) := (hcB.cell hb (Nat.not_lt.2 (Nat.le_of_lt (Nat.lt_trans hbH hlt)))).trans hHeld.2.2
        have x3 := cells_at hXB 3
        have o3 := cells_at hOB 3
        simp only [rpV, rpCells, List.getElem?_toArray, List.getElem?_cons_zero, List.getElem?_cons_succ] at x3 o3
        have f3 := frozen_at hXB 3
        obtain ⟨na9, nc9, rfl, _⟩ := h9.ss (n := k + 1) (by simp; omega)
        have hXC := cells_set (k := 3) (y := .slice na9 (k + 1 : Nat) nc9) hXB
        have hOC := cells_far (k := 3) (y := .slice na9 (k + 1 : Nat) nc9) hOB hHX
        have hEC := hEB.setCell (p := ⟨X, 3, none⟩) (Nat.le_of_lt hlt) (.slice na9 (k + 1 : Nat) nc9)
        have hnC := h9.setOther (p := ⟨X, 3, none⟩) (fun q hq => by have := (h9.lt q hq).1; show q ≠ X; omega) (.slice na9 (k + 1 : Nat) nc9)
        have HALL := Lib.hid (And.intro hnC (And.intro hXC (And.intro hOC hEC)))
        clear hnC hXC hOC hEC hcB hXB hOB hEB h9 hg9 ho9 hon hX hO hE
        go_simp
        refine hK.out _ _ (fun _ => ⟨x3, o3, hcb⟩) ?_
        clear hK K hHeld o3 hcb
        refine heldB_one 10 (by kernel_rfl) rfl (fun K hK => ?_)
        go_simp
        refine hK.out _ _ (fun h => by simp at h) ?_
        clear hK K
        refine heldB_one 11 (by kernel_rfl) rfl (fun K hK => ?_)
        go_simp
        refine hK.out _ _ (fun h => by simp at h) ?_
        clear hK K x3 f3
        refine heldB_done (by kernel_rfl) ?_ _
        go_wp2_with fail
        go_roundw
        case rel => exact ⟨k + 1, _, by omega, by go_num, by rw [HHT.out]; exact HALL.out.1, HALL.out.2.1, HALL.out.2.2.1, HALL.out.2.2.2⟩
        case measure => simp [intOf]; omega
      · obtain rfl : k = m := by omega
        have hF : Rp.Fine ⟨e1, n1, ds.take d, (ls.take k).map (·.take 16), zeroNd⟩ := by
          refine ⟨⟨he.1, he.2, decide_eq_true hn1, ?_, ?_⟩, ?_, .inl ⟨rfl, rfl, rfl, rfl, rfl, rfl⟩⟩
          · simp; omega
          · simp; omega
          · intro s hs
            obtain ⟨s0, _, rfl⟩ := List.mem_map.1 hs
            simp
            omega
        have hlk : ((ls.take k).map (·.take 16)).length = k := by simp; omega
        have hbd := Rp.bytes_bd _ hF
        have hEnc : rpEnc ⟨e1, n1, ds.take d, (ls.take k).map (·.take 16), zeroNd⟩ = (Rp.bytes ⟨e1, n1, ds.take d, (ls.take k).map (·.take 16), zeroNd⟩, 0) := by unfold rpEnc; rw [if_pos hF]
        obtain ⟨na5, nc5, rfl, hS5⟩ := hon.ss hlk
        have hD5 := (HB.out.1 _ hE).take hd2
        have hR := rrpenc_any e1 n1 da d dc (ds.take d) na5 k nc5 ((ls.take k).map (·.take 16)) zeroNd wr hD5 hS5
        rw [hEnc] at hR
        have HR := Lib.hid hR
        generalize hNN : (ls.take k).map (·.take 16) = NN at *
        have HFX := Lib.hid hF
        generalize Rp.bytes ⟨e1, n1, ds.take d, NN, zeroNd⟩ = L at *
        unfold rpCells zeroNd at HR
        simp only at HR
        have HX := Lib.hid hX
        have HO := Lib.hid hO
        clear hR hF hEnc hNN hX hO hD5 x3 he hn1
        have Dd := cells_at HX.out
        have d0 := Dd 0; have d1 := Dd 1; have d2 := Dd 2; have d3 := Dd 3; have d4 := Dd 4; have d5 := Dd 5; have d6 := Dd 6; have d7 := Dd 7; have d8 := Dd 8; have d9 := Dd 9
        simp only [rpV, List.getElem?_toArray, List.getElem?_cons_zero, List.getElem?_cons_succ] at d0 d1 d2 d3 d4 d5 d6 d7 d8 d9
        clear Dd
        have Dc := cells_at HO.out
        have c0 := Dc 0; have c1 := Dc 1; have c2 := Dc 2; have c3 := Dc 3; have c4 := Dc 4; have c5 := Dc 5; have c6 := Dc 6; have c7 := Dc 7; have c8 := Dc 8; have c9 := Dc 9
        simp only [rpCells, List.getElem?_toArray, List.getElem?_cons_zero, List.getElem?_cons_succ] at c0 c1 c2 c3 c4 c5 c6 c7 c8 c9
        clear Dc
        clear o3
        go_wp2_with fail
        refine HR.out.mono ?_
        rintro e' w6 ⟨v6, rfl, ho6, hb6⟩
        have hE6 := hE.step hb6
        have hX6 := (hb6.block X hlX).trans HX.out
        have hO6 := (hb6.block H (lt_of_heap HO.out)).trans HO.out
        have hS6 := hS5.below hb6
        have ho6 := ho6.base hE.2
        obtain ⟨a6, m6, rfl, hL6⟩ := ho6.bs
        clear c0 c1 c2 c3 c4 c5 c6 c7 c8 c9 d0 d1 d2 d3 d4 d5 d6 d7 d8 d9 HX HO HR hE hS5 hon hb6 hlX
        have HX := Lib.hid hX6
        have HSM := Lib.hid (law15_samerp e n da d dc (ds.take d) na k nc (ls.take k) nd w6 ((HB.out.1 _ hE6).take hd2) ((HB.out.2.2 _ hE6).take hnl'))
        unfold rpCells at HSM
        have Dc := cells_at hO6
        have c0 := Dc 0; have c1 := Dc 1; have c2 := Dc 2; have c3 := Dc 3; have c4 := Dc 4; have c5 := Dc 5; have c6 := Dc 6; have c7 := Dc 7; have c8 := Dc 8; have c9 := Dc 9
        simp only [rpCells, List.getElem?_toArray, List.getElem?_cons_zero, List.getElem?_cons_succ] at c0 c1 c2 c3 c4 c5 c6 c7 c8 c9
        clear Dc
        clear hX6 hO6
        go_wp2_with fail
        refine HSM.out.mono ?_
        rintro e' w7 ⟨rfl, hb7⟩
        have hE7 := hE6.step hb7
        have hX7 := (hb7.block X (lt_of_heap HX.out)).trans HX.out
        have hS7 := hS6.below hb7
        have ho7 := ho6.below hb7
        clear c0 c1 c2 c3 c4 c5 c6 c7 c8 c9 HX HSM hE6 hb7 ho6 hL6 hS6
        have HSM := Lib.hid (law15_samerp e1 n1 da d dc (ds.take d) na5 k nc5 NN zeroNd w7 ((HB.out.1 _ hE7).take hd2) hS7)
        unfold rpCells zeroNd at HSM
        simp only at HSM
        have HX := Lib.hid hX7
        have Dd := cells_at HX.out
        have d0 := Dd 0; have d1 := Dd 1; have d2 := Dd 2; have d3 := Dd 3; have d4 := Dd 4; have d5 := Dd 5; have d6 := Dd 6; have d7 := Dd 7; have d8 := Dd 8; have d9 := Dd 9
        simp only [rpV, List.getElem?_toArray, List.getElem?_cons_zero, List.getElem?_cons_succ] at d0 d1 d2 d3 d4 d5 d6 d7 d8 d9
        clear Dd
        clear hX7
        go_wp2_with fail
        refine HSM.out.mono ?_
        rintro e' w8x ⟨rfl, hb8⟩
        have hE8 := hE7.step hb8
        have ho8 := ho7.below hb8
        clear d0 d1 d2 d3 d4 d5 d6 d7 d8 d9 HSM hE7 hb8 ho7 HX hS7
        have hL8 : Bs w8x a6 L.length m6 L := by
          obtain ⟨a, c, h, hb⟩ := ho8.bs
          cases h; exact hb
        go_wp2_with fail
        refine (law15_readrp a6 L.length m6 L w8x hL8 (by unfold big; omega)).mono ?_
        rintro e' w9 ⟨rfl, hb9⟩
        have hE9 := hE8.step hb9
        have ho9 := ho8.below hb9
        clear hE8 ho8 hL8 hb9
        go_wp2_with fail
        refine (cut_any 100 ab lb cb _ hlbc (by decide)).mono ?_
        rintro e' w10 ⟨rfl, rfl⟩
        have hBb := (HB.out.2.1 _ hE9).take (Nat.min_le_left lb 100)
        have hm100 : min lb 100 ≤ 100 := Nat.min_le_right _ _
        generalize min lb 100 = m1 at *
        go_wp2_with fail
        refine (law15_readrp ab m1 cb _ w9 hBb (by unfold big; omega)).mono ?_
        rintro e' w10 ⟨rfl, hb10⟩
        have hE10 := hE9.step hb10
        have ho10 := ho9.below hb10
        clear hE9 ho9 hBb hb10
        rcases ho10.parts with ⟨h6, hL0⟩ | ⟨g, cg, h6, hgH, hRow⟩
        · rw [hL0] at hbd
          simp at hbd
        · obtain ⟨rfl, rfl⟩ : a6 = some ⟨g, 0, none⟩ ∧ m6 = cg := by simpa using h6
          clear h6
          clear ho10
          have hpos : (0 : Int) < (L.length : Int) := by omega
          have hw1 : IntKind.i64.wrap ((L.length : Int) - 1) = (L.length : Int) - 1 := IntWalk.i64_in _ (by omega)
          go_wp2_with fail
          refine (within_any iat 0 ((L.length : Int) - 1) _ (by omega) (by omega) (by omega)).mono ?_
          rintro e' w11 ⟨rfl, rfl⟩
          have hi := within_bd iat 0 ((L.length : Int) - 1) (by omega)
          generalize within iat 0 ((L.length : Int) - 1) = ii at *
          obtain ⟨i, rfl⟩ : ∃ i : Nat, ii = (i : Int) := ⟨ii.toNat, by omega⟩
          have hiL : i < L.length := by omega
          have hc := hRow.cell i hiL
          have hfz := hRow.frozen i
          have hcl := hRow.len
          have hxo := u8_xor_nat (L[i]).toNat t.toNat (UInt8.toNat_lt _) (UInt8.toNat_lt _)
          have hR15 := hRow.set i (L[i] ^^^ t)
          rw [UInt8.toNat_xor] at hR15
          have hE15 := hE10.setCell (p := ⟨g, i, none⟩) hgH (.int .u8 (((L[i]).toNat ^^^ t.toNat : Nat) : Int))
          have hl15 : (L.set i (L[i] ^^^ t)).length = L.length := List.length_set
          go_upto_region 17 with fail
          generalize w10.setCell ⟨g, i, none⟩ (.int .u8 (((L[i]).toNat ^^^ t.toNat : Nat) : Int)) = w15 at *
          clear hc hfz hxo hRow hE10 HFX
          generalize L.set i (L[i] ^^^ t) = L2 at *
          have hB15 := hR15.bs
          rw [hl15] at hB15
          clear hR15 hw1 hi hcl hl15 hpos
          go_wp2_with fail
          refine (law15_readrp _ L.length m6 _ _ hB15 (by unfold big; omega)).mono ?_
          rintro e' w16 ⟨rfl, hb16⟩
          have hE16 := hE15.step hb16
          go_wp2_with fail
          refine (law15_known _).mono ?_
          rintro e' w17 ⟨rfl, hb17⟩
          go_wp2_with fail
          go_ret
          rw [← HH.out]
          exact ⟨rfl, (hE16.step hb17).1⟩
end Go.Proofs.Ytphjdlckoddgmaa
