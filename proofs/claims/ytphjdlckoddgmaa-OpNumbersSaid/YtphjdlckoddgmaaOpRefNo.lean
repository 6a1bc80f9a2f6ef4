/- permafrostref15.Encode, where it refuses. -/
import Derived.Test.YtphjdlckoddgmaaOpAsked
import Derived.Test.YtphjdlckoddgmaaOpEnc
import Derived.Test.YtphjdlckoddgmaaRef10
import Derived.Test.YtphjdlckoddgmaaHeld
import Derived.Deep.DeepCutAuto
namespace Go.Proofs.Ytphjdlckoddgmaa
open Go.RowKit

theorem rshort_true (n : Int) (h1 : 0 ≤ n) (h2 : n ≤ 65535) (w : World) : Calls Try.prog 29 #[.int .i64 n] w fun e w' => e = .returned (.bool true) ∧ w = w' := by
  go_enter Try.func29, Try.ntmps29
  go_wp2
  all_goals go_ret
  all_goals exact ⟨rfl, rfl⟩
theorem refshort_any (n : Int) (b : Bool) (h : shortI n = b) (w : World) : Calls Try.prog 29 #[.int .i64 n] w fun e w' => e = .returned (.bool b) ∧ w = w' := by
  unfold shortI at h
  subst h
  go_enter Try.func29, Try.ntmps29
  go_wp2
  all_goals go_ret
  all_goals refine ⟨ret_bool ?_, rfl⟩
  all_goals (first | (symm; simp; omega) | (simp; omega) | go_goals)
theorem kind_eqs {k : Int} {a : Ask} (ha : asksOf k = some a) : (k == 4) = a.part ∧ (k == 5) = a.data := by
  have hr := asksOf_range ha
  have hk := kinds (k := k) (by omega)
  clear hr
  rcases hk with rfl | rfl | rfl | rfl | rfl | rfl | rfl | rfl | rfl | rfl | rfl | rfl | rfl | rfl | rfl | rfl | rfl
  all_goals
    simp only [asksOf, Option.some.injEq] at ha
    subst ha
    exact ⟨rfl, rfl⟩

set_option maxHeartbeats 8000000 in
set_option maxRecDepth 100000 in
theorem renc_kind (k : Int) (c1 c2 : ByteArray) (c3 c4 c5 c7 : Int) (c6 : Nat) (c8a : Option Addr) (c8l c8c : Nat) (ha : k < 1 ∨ 17 < k) (w : World) :
    Calls Try.prog 12 #[.agg (ovCells k c1 c2 c3 c4 c5 c6 c7 c8a c8l c8c)] w fun e w' => e = .returned (.tuple #[.slice none 0 0, .int .i64 30]) ∧ Below w.heap.size w w' := by
  unfold ovCells
  rcases ha with ha | ha
  · go_enter Try.func12, Try.ntmps12
    go_wp2_with fail
    go_ret2
    exact ⟨rfl, ((Ext.refl w).alloc _).1⟩
  · have e1 : 1 ≤ k := by omega
    go_enter Try.func12, Try.ntmps12
    go_wp2_with fail
    go_ret2
    exact ⟨rfl, ((Ext.refl w).alloc _).1⟩

set_option maxHeartbeats 8000000 in
set_option maxRecDepth 100000 in
theorem renc_wrong0 (k : Int) (ps ts : List UInt8) (fd at_ n sn : Int) (til : Nat) (da : Option Addr) (dl dc : Nat) (c1 c2 : ByteArray) (c3 c4 c5 c7 : Int) (c6 : Nat) (c8a : Option Addr) (c8l c8c : Nat) (e1 : 1 ≤ k) (e2 : k ≤ 17) (w : World)
    (HAs : Hid (∀ W, Calls Try.prog 18 #[.agg (ovCells k c1 c2 c3 c4 c5 c6 c7 c8a c8l c8c)] W fun e w' => e = .returned (.agg (ovCells k (strOf ps) (strOf ts) fd at_ n til sn da dl dc)) ∧ Below W.heap.size W w'))
    (F1 : (200 : Int) < ((strOf ps).size : Int)) :
    Calls Try.prog 12 #[.agg (ovCells k c1 c2 c3 c4 c5 c6 c7 c8a c8l c8c)] w fun e w' => e = .returned (.tuple #[.slice none 0 0, .int .i64 3]) ∧ Below w.heap.size w w' := by
  obtain ⟨H, hH⟩ : ∃ H, H = w.heap.size := ⟨_, rfl⟩
  have HH := Lib.hid hH
  unfold ovCells at HAs ⊢
  go_enter Try.func12, Try.ntmps12
  go_upto_region 3 with fail
  have hO := OvAt.of (heap_alloc_new w (.cells (ovCells k c1 c2 c3 c4 c5 c6 c7 c8a c8l c8c) 25))
  have hE0 := (Ext.refl w).alloc (.cells (ovCells k c1 c2 c3 c4 c5 c6 c7 c8a c8l c8c) 25)
  have hlt : w.heap.size < (w.alloc (.cells (ovCells k c1 c2 c3 c4 c5 c6 c7 c8a c8l c8c) 25)).heap.size := size_alloc _ _
  unfold ovCells at hO hE0 hlt
  rw [← hH] at hO hE0 hlt ⊢
  clear hH
  generalize w.alloc _ = w0 at *
  have HO := Lib.hid hO
  obtain ⟨k0, k1, k2, k3, k4, k5, k6, k7, k8⟩ := hO
  go_wp2_with fail
  refine (HAs.out _).mono ?_
  rintro e w1 ⟨rfl, hb1⟩
  clear k0 k1 k2 k3 k4 k5 k6 k7 k8 HAs
  have hO := HO.out.below hb1 hlt
  have hE1 := (hE0.step hb1).alloc (.cells (ovCells k (strOf ps) (strOf ts) fd at_ n til sn da dl dc) 25)
  have hX := OvAt.of (heap_alloc_new w1 (.cells (ovCells k (strOf ps) (strOf ts) fd at_ n til sn da dl dc) 25))
  have hlt1 := Nat.lt_of_lt_of_le hlt hb1.size
  have hO1 := hO.below (Below.alloc (Below.refl _ _) (Nat.le_refl _) (.cells (ovCells k (strOf ps) (strOf ts) fd at_ n til sn da dl dc) 25)) hlt1
  have hltX : w1.heap.size < (w1.alloc (.cells (ovCells k (strOf ps) (strOf ts) fd at_ n til sn da dl dc) 25)).heap.size := size_alloc _ _
  have hltH := Nat.lt_trans hlt1 hltX
  unfold ovCells at hE1 hX hO1 hltX hltH
  clear hO HO hb1 hE0 hlt hlt1
  go_upto_region 4 with fail
  generalize w1.alloc _ = w2 at *
  generalize w1.heap.size = X at *
  have HO := Lib.hid hO1
  have HX := Lib.hid hX
  clear hO1
  obtain ⟨x0, x1, x2, x3, x4, x5, x6, x7, x8⟩ := hX
  go_wp2_with fail
  go_ret2
  rw [← HH.out]
  exact ⟨rfl, hE1.1⟩

set_option maxHeartbeats 8000000 in
set_option maxRecDepth 100000 in
theorem renc_wrong1 (k : Int) (ps ts : List UInt8) (fd at_ n sn : Int) (til : Nat) (da : Option Addr) (dl dc : Nat) (c1 c2 : ByteArray) (c3 c4 c5 c7 : Int) (c6 : Nat) (c8a : Option Addr) (c8l c8c : Nat) (e1 : 1 ≤ k) (e2 : k ≤ 17) (w : World)
    (HAs : Hid (∀ W, Calls Try.prog 18 #[.agg (ovCells k c1 c2 c3 c4 c5 c6 c7 c8a c8l c8c)] W fun e w' => e = .returned (.agg (ovCells k (strOf ps) (strOf ts) fd at_ n til sn da dl dc)) ∧ Below W.heap.size W w'))
    (F1 : ((strOf ps).size : Int) ≤ 200) (F2 : (200 : Int) < ((strOf ts).size : Int)) :
    Calls Try.prog 12 #[.agg (ovCells k c1 c2 c3 c4 c5 c6 c7 c8a c8l c8c)] w fun e w' => e = .returned (.tuple #[.slice none 0 0, .int .i64 3]) ∧ Below w.heap.size w w' := by
  obtain ⟨H, hH⟩ : ∃ H, H = w.heap.size := ⟨_, rfl⟩
  have HH := Lib.hid hH
  unfold ovCells at HAs ⊢
  go_enter Try.func12, Try.ntmps12
  go_upto_region 3 with fail
  have hO := OvAt.of (heap_alloc_new w (.cells (ovCells k c1 c2 c3 c4 c5 c6 c7 c8a c8l c8c) 25))
  have hE0 := (Ext.refl w).alloc (.cells (ovCells k c1 c2 c3 c4 c5 c6 c7 c8a c8l c8c) 25)
  have hlt : w.heap.size < (w.alloc (.cells (ovCells k c1 c2 c3 c4 c5 c6 c7 c8a c8l c8c) 25)).heap.size := size_alloc _ _
  unfold ovCells at hO hE0 hlt
  rw [← hH] at hO hE0 hlt ⊢
  clear hH
  generalize w.alloc _ = w0 at *
  have HO := Lib.hid hO
  obtain ⟨k0, k1, k2, k3, k4, k5, k6, k7, k8⟩ := hO
  go_wp2_with fail
  refine (HAs.out _).mono ?_
  rintro e w1 ⟨rfl, hb1⟩
  clear k0 k1 k2 k3 k4 k5 k6 k7 k8 HAs
  have hO := HO.out.below hb1 hlt
  have hE1 := (hE0.step hb1).alloc (.cells (ovCells k (strOf ps) (strOf ts) fd at_ n til sn da dl dc) 25)
  have hX := OvAt.of (heap_alloc_new w1 (.cells (ovCells k (strOf ps) (strOf ts) fd at_ n til sn da dl dc) 25))
  have hlt1 := Nat.lt_of_lt_of_le hlt hb1.size
  have hO1 := hO.below (Below.alloc (Below.refl _ _) (Nat.le_refl _) (.cells (ovCells k (strOf ps) (strOf ts) fd at_ n til sn da dl dc) 25)) hlt1
  have hltX : w1.heap.size < (w1.alloc (.cells (ovCells k (strOf ps) (strOf ts) fd at_ n til sn da dl dc) 25)).heap.size := size_alloc _ _
  have hltH := Nat.lt_trans hlt1 hltX
  unfold ovCells at hE1 hX hO1 hltX hltH
  clear hO HO hb1 hE0 hlt hlt1
  go_upto_region 4 with fail
  generalize w1.alloc _ = w2 at *
  generalize w1.heap.size = X at *
  have HO := Lib.hid hO1
  have HX := Lib.hid hX
  clear hO1
  obtain ⟨x0, x1, x2, x3, x4, x5, x6, x7, x8⟩ := hX
  go_wp2_with fail
  go_ret2
  rw [← HH.out]
  exact ⟨rfl, hE1.1⟩

set_option maxHeartbeats 8000000 in
set_option maxRecDepth 100000 in
theorem renc_wrong2 (k : Int) (ps ts : List UInt8) (fd at_ n sn : Int) (til : Nat) (da : Option Addr) (dl dc : Nat) (c1 c2 : ByteArray) (c3 c4 c5 c7 : Int) (c6 : Nat) (c8a : Option Addr) (c8l c8c : Nat) (e1 : 1 ≤ k) (e2 : k ≤ 17) (w : World)
    (HAs : Hid (∀ W, Calls Try.prog 18 #[.agg (ovCells k c1 c2 c3 c4 c5 c6 c7 c8a c8l c8c)] W fun e w' => e = .returned (.agg (ovCells k (strOf ps) (strOf ts) fd at_ n til sn da dl dc)) ∧ Below W.heap.size W w'))
    (F1 : ((strOf ps).size : Int) ≤ 200) (F2 : ((strOf ts).size : Int) ≤ 200) (F3 : (600 : Int) < (dl : Int)) :
    Calls Try.prog 12 #[.agg (ovCells k c1 c2 c3 c4 c5 c6 c7 c8a c8l c8c)] w fun e w' => e = .returned (.tuple #[.slice none 0 0, .int .i64 3]) ∧ Below w.heap.size w w' := by
  obtain ⟨H, hH⟩ : ∃ H, H = w.heap.size := ⟨_, rfl⟩
  have HH := Lib.hid hH
  unfold ovCells at HAs ⊢
  go_enter Try.func12, Try.ntmps12
  go_upto_region 3 with fail
  have hO := OvAt.of (heap_alloc_new w (.cells (ovCells k c1 c2 c3 c4 c5 c6 c7 c8a c8l c8c) 25))
  have hE0 := (Ext.refl w).alloc (.cells (ovCells k c1 c2 c3 c4 c5 c6 c7 c8a c8l c8c) 25)
  have hlt : w.heap.size < (w.alloc (.cells (ovCells k c1 c2 c3 c4 c5 c6 c7 c8a c8l c8c) 25)).heap.size := size_alloc _ _
  unfold ovCells at hO hE0 hlt
  rw [← hH] at hO hE0 hlt ⊢
  clear hH
  generalize w.alloc _ = w0 at *
  have HO := Lib.hid hO
  obtain ⟨k0, k1, k2, k3, k4, k5, k6, k7, k8⟩ := hO
  go_wp2_with fail
  refine (HAs.out _).mono ?_
  rintro e w1 ⟨rfl, hb1⟩
  clear k0 k1 k2 k3 k4 k5 k6 k7 k8 HAs
  have hO := HO.out.below hb1 hlt
  have hE1 := (hE0.step hb1).alloc (.cells (ovCells k (strOf ps) (strOf ts) fd at_ n til sn da dl dc) 25)
  have hX := OvAt.of (heap_alloc_new w1 (.cells (ovCells k (strOf ps) (strOf ts) fd at_ n til sn da dl dc) 25))
  have hlt1 := Nat.lt_of_lt_of_le hlt hb1.size
  have hO1 := hO.below (Below.alloc (Below.refl _ _) (Nat.le_refl _) (.cells (ovCells k (strOf ps) (strOf ts) fd at_ n til sn da dl dc) 25)) hlt1
  have hltX : w1.heap.size < (w1.alloc (.cells (ovCells k (strOf ps) (strOf ts) fd at_ n til sn da dl dc) 25)).heap.size := size_alloc _ _
  have hltH := Nat.lt_trans hlt1 hltX
  unfold ovCells at hE1 hX hO1 hltX hltH
  clear hO HO hb1 hE0 hlt hlt1
  go_upto_region 4 with fail
  generalize w1.alloc _ = w2 at *
  generalize w1.heap.size = X at *
  have HO := Lib.hid hO1
  have HX := Lib.hid hX
  clear hO1
  obtain ⟨x0, x1, x2, x3, x4, x5, x6, x7, x8⟩ := hX
  go_wp2_with fail
  go_ret2
  rw [← HH.out]
  exact ⟨rfl, hE1.1⟩

set_option maxHeartbeats 8000000 in
set_option maxRecDepth 100000 in
theorem renc_wrong3 (k : Int) (ps ts : List UInt8) (fd at_ n sn : Int) (til : Nat) (da : Option Addr) (dl dc : Nat) (c1 c2 : ByteArray) (c3 c4 c5 c7 : Int) (c6 : Nat) (c8a : Option Addr) (c8l c8c : Nat) (e1 : 1 ≤ k) (e2 : k ≤ 17) (w : World)
    (HAs : Hid (∀ W, Calls Try.prog 18 #[.agg (ovCells k c1 c2 c3 c4 c5 c6 c7 c8a c8l c8c)] W fun e w' => e = .returned (.agg (ovCells k (strOf ps) (strOf ts) fd at_ n til sn da dl dc)) ∧ Below W.heap.size W w'))
    (F1 : ((strOf ps).size : Int) ≤ 200) (F2 : ((strOf ts).size : Int) ≤ 200) (F3 : (dl : Int) ≤ 600) (G0 : shortI fd = false) :
    Calls Try.prog 12 #[.agg (ovCells k c1 c2 c3 c4 c5 c6 c7 c8a c8l c8c)] w fun e w' => e = .returned (.tuple #[.slice none 0 0, .int .i64 1]) ∧ Below w.heap.size w w' := by
  obtain ⟨H, hH⟩ : ∃ H, H = w.heap.size := ⟨_, rfl⟩
  have HH := Lib.hid hH
  unfold ovCells at HAs ⊢
  go_enter Try.func12, Try.ntmps12
  go_upto_region 3 with fail
  have hO := OvAt.of (heap_alloc_new w (.cells (ovCells k c1 c2 c3 c4 c5 c6 c7 c8a c8l c8c) 25))
  have hE0 := (Ext.refl w).alloc (.cells (ovCells k c1 c2 c3 c4 c5 c6 c7 c8a c8l c8c) 25)
  have hlt : w.heap.size < (w.alloc (.cells (ovCells k c1 c2 c3 c4 c5 c6 c7 c8a c8l c8c) 25)).heap.size := size_alloc _ _
  unfold ovCells at hO hE0 hlt
  rw [← hH] at hO hE0 hlt ⊢
  clear hH
  generalize w.alloc _ = w0 at *
  have HO := Lib.hid hO
  obtain ⟨k0, k1, k2, k3, k4, k5, k6, k7, k8⟩ := hO
  go_wp2_with fail
  refine (HAs.out _).mono ?_
  rintro e w1 ⟨rfl, hb1⟩
  clear k0 k1 k2 k3 k4 k5 k6 k7 k8 HAs
  have hO := HO.out.below hb1 hlt
  have hE1 := (hE0.step hb1).alloc (.cells (ovCells k (strOf ps) (strOf ts) fd at_ n til sn da dl dc) 25)
  have hX := OvAt.of (heap_alloc_new w1 (.cells (ovCells k (strOf ps) (strOf ts) fd at_ n til sn da dl dc) 25))
  have hlt1 := Nat.lt_of_lt_of_le hlt hb1.size
  have hO1 := hO.below (Below.alloc (Below.refl _ _) (Nat.le_refl _) (.cells (ovCells k (strOf ps) (strOf ts) fd at_ n til sn da dl dc) 25)) hlt1
  have hltX : w1.heap.size < (w1.alloc (.cells (ovCells k (strOf ps) (strOf ts) fd at_ n til sn da dl dc) 25)).heap.size := size_alloc _ _
  have hltH := Nat.lt_trans hlt1 hltX
  unfold ovCells at hE1 hX hO1 hltX hltH
  clear hO HO hb1 hE0 hlt hlt1
  go_upto_region 4 with fail
  generalize w1.alloc _ = w2 at *
  generalize w1.heap.size = X at *
  have HO := Lib.hid hO1
  have HX := Lib.hid hX
  clear hO1
  obtain ⟨x0, x1, x2, x3, x4, x5, x6, x7, x8⟩ := hX
  go_wp2_with fail
  refine (refshort_any fd false G0 _).mono ?_
  rintro e w3 ⟨rfl, rfl⟩
  go_wp2_with fail
  go_ret2
  rw [← HH.out]
  exact ⟨rfl, hE1.1⟩

set_option maxHeartbeats 8000000 in
set_option maxRecDepth 100000 in
theorem renc_wrong4 (k : Int) (ps ts : List UInt8) (fd at_ n sn : Int) (til : Nat) (da : Option Addr) (dl dc : Nat) (c1 c2 : ByteArray) (c3 c4 c5 c7 : Int) (c6 : Nat) (c8a : Option Addr) (c8l c8c : Nat) (e1 : 1 ≤ k) (e2 : k ≤ 17) (w : World)
    (HAs : Hid (∀ W, Calls Try.prog 18 #[.agg (ovCells k c1 c2 c3 c4 c5 c6 c7 c8a c8l c8c)] W fun e w' => e = .returned (.agg (ovCells k (strOf ps) (strOf ts) fd at_ n til sn da dl dc)) ∧ Below W.heap.size W w'))
    (F1 : ((strOf ps).size : Int) ≤ 200) (F2 : ((strOf ts).size : Int) ≤ 200) (F3 : (dl : Int) ≤ 600) (G0 : shortI fd = true) (G1 : shortI at_ = false) :
    Calls Try.prog 12 #[.agg (ovCells k c1 c2 c3 c4 c5 c6 c7 c8a c8l c8c)] w fun e w' => e = .returned (.tuple #[.slice none 0 0, .int .i64 1]) ∧ Below w.heap.size w w' := by
  obtain ⟨H, hH⟩ : ∃ H, H = w.heap.size := ⟨_, rfl⟩
  have HH := Lib.hid hH
  unfold ovCells at HAs ⊢
  go_enter Try.func12, Try.ntmps12
  go_upto_region 3 with fail
  have hO := OvAt.of (heap_alloc_new w (.cells (ovCells k c1 c2 c3 c4 c5 c6 c7 c8a c8l c8c) 25))
  have hE0 := (Ext.refl w).alloc (.cells (ovCells k c1 c2 c3 c4 c5 c6 c7 c8a c8l c8c) 25)
  have hlt : w.heap.size < (w.alloc (.cells (ovCells k c1 c2 c3 c4 c5 c6 c7 c8a c8l c8c) 25)).heap.size := size_alloc _ _
  unfold ovCells at hO hE0 hlt
  rw [← hH] at hO hE0 hlt ⊢
  clear hH
  generalize w.alloc _ = w0 at *
  have HO := Lib.hid hO
  obtain ⟨k0, k1, k2, k3, k4, k5, k6, k7, k8⟩ := hO
  go_wp2_with fail
  refine (HAs.out _).mono ?_
  rintro e w1 ⟨rfl, hb1⟩
  clear k0 k1 k2 k3 k4 k5 k6 k7 k8 HAs
  have hO := HO.out.below hb1 hlt
  have hE1 := (hE0.step hb1).alloc (.cells (ovCells k (strOf ps) (strOf ts) fd at_ n til sn da dl dc) 25)
  have hX := OvAt.of (heap_alloc_new w1 (.cells (ovCells k (strOf ps) (strOf ts) fd at_ n til sn da dl dc) 25))
  have hlt1 := Nat.lt_of_lt_of_le hlt hb1.size
  have hO1 := hO.below (Below.alloc (Below.refl _ _) (Nat.le_refl _) (.cells (ovCells k (strOf ps) (strOf ts) fd at_ n til sn da dl dc) 25)) hlt1
  have hltX : w1.heap.size < (w1.alloc (.cells (ovCells k (strOf ps) (strOf ts) fd at_ n til sn da dl dc) 25)).heap.size := size_alloc _ _
  have hltH := Nat.lt_trans hlt1 hltX
  unfold ovCells at hE1 hX hO1 hltX hltH
  clear hO HO hb1 hE0 hlt hlt1
  go_upto_region 4 with fail
  generalize w1.alloc _ = w2 at *
  generalize w1.heap.size = X at *
  have HO := Lib.hid hO1
  have HX := Lib.hid hX
  clear hO1
  obtain ⟨x0, x1, x2, x3, x4, x5, x6, x7, x8⟩ := hX
  go_wp2_with fail
  refine (refshort_any fd true G0 _).mono ?_
  rintro e w3 ⟨rfl, rfl⟩
  go_wp2_with fail
  refine (refshort_any at_ false G1 _).mono ?_
  rintro e w3 ⟨rfl, rfl⟩
  go_wp2_with fail
  go_ret2
  rw [← HH.out]
  exact ⟨rfl, hE1.1⟩

set_option maxHeartbeats 8000000 in
set_option maxRecDepth 100000 in
theorem renc_wrong5 (k : Int) (ps ts : List UInt8) (fd at_ n sn : Int) (til : Nat) (da : Option Addr) (dl dc : Nat) (c1 c2 : ByteArray) (c3 c4 c5 c7 : Int) (c6 : Nat) (c8a : Option Addr) (c8l c8c : Nat) (e1 : 1 ≤ k) (e2 : k ≤ 17) (w : World)
    (HAs : Hid (∀ W, Calls Try.prog 18 #[.agg (ovCells k c1 c2 c3 c4 c5 c6 c7 c8a c8l c8c)] W fun e w' => e = .returned (.agg (ovCells k (strOf ps) (strOf ts) fd at_ n til sn da dl dc)) ∧ Below W.heap.size W w'))
    (F1 : ((strOf ps).size : Int) ≤ 200) (F2 : ((strOf ts).size : Int) ≤ 200) (F3 : (dl : Int) ≤ 600) (G0 : shortI fd = true) (G1 : shortI at_ = true) (G2 : shortI n = false) :
    Calls Try.prog 12 #[.agg (ovCells k c1 c2 c3 c4 c5 c6 c7 c8a c8l c8c)] w fun e w' => e = .returned (.tuple #[.slice none 0 0, .int .i64 1]) ∧ Below w.heap.size w w' := by
  obtain ⟨H, hH⟩ : ∃ H, H = w.heap.size := ⟨_, rfl⟩
  have HH := Lib.hid hH
  unfold ovCells at HAs ⊢
  go_enter Try.func12, Try.ntmps12
  go_upto_region 3 with fail
  have hO := OvAt.of (heap_alloc_new w (.cells (ovCells k c1 c2 c3 c4 c5 c6 c7 c8a c8l c8c) 25))
  have hE0 := (Ext.refl w).alloc (.cells (ovCells k c1 c2 c3 c4 c5 c6 c7 c8a c8l c8c) 25)
  have hlt : w.heap.size < (w.alloc (.cells (ovCells k c1 c2 c3 c4 c5 c6 c7 c8a c8l c8c) 25)).heap.size := size_alloc _ _
  unfold ovCells at hO hE0 hlt
  rw [← hH] at hO hE0 hlt ⊢
  clear hH
  generalize w.alloc _ = w0 at *
  have HO := Lib.hid hO
  obtain ⟨k0, k1, k2, k3, k4, k5, k6, k7, k8⟩ := hO
  go_wp2_with fail
  refine (HAs.out _).mono ?_
  rintro e w1 ⟨rfl, hb1⟩
  clear k0 k1 k2 k3 k4 k5 k6 k7 k8 HAs
  have hO := HO.out.below hb1 hlt
  have hE1 := (hE0.step hb1).alloc (.cells (ovCells k (strOf ps) (strOf ts) fd at_ n til sn da dl dc) 25)
  have hX := OvAt.of (heap_alloc_new w1 (.cells (ovCells k (strOf ps) (strOf ts) fd at_ n til sn da dl dc) 25))
  have hlt1 := Nat.lt_of_lt_of_le hlt hb1.size
  have hO1 := hO.below (Below.alloc (Below.refl _ _) (Nat.le_refl _) (.cells (ovCells k (strOf ps) (strOf ts) fd at_ n til sn da dl dc) 25)) hlt1
  have hltX : w1.heap.size < (w1.alloc (.cells (ovCells k (strOf ps) (strOf ts) fd at_ n til sn da dl dc) 25)).heap.size := size_alloc _ _
  have hltH := Nat.lt_trans hlt1 hltX
  unfold ovCells at hE1 hX hO1 hltX hltH
  clear hO HO hb1 hE0 hlt hlt1
  go_upto_region 4 with fail
  generalize w1.alloc _ = w2 at *
  generalize w1.heap.size = X at *
  have HO := Lib.hid hO1
  have HX := Lib.hid hX
  clear hO1
  obtain ⟨x0, x1, x2, x3, x4, x5, x6, x7, x8⟩ := hX
  go_wp2_with fail
  refine (refshort_any fd true G0 _).mono ?_
  rintro e w3 ⟨rfl, rfl⟩
  go_wp2_with fail
  refine (refshort_any at_ true G1 _).mono ?_
  rintro e w3 ⟨rfl, rfl⟩
  go_wp2_with fail
  refine (refshort_any n false G2 _).mono ?_
  rintro e w3 ⟨rfl, rfl⟩
  go_wp2_with fail
  go_ret2
  rw [← HH.out]
  exact ⟨rfl, hE1.1⟩

set_option maxHeartbeats 8000000 in
set_option maxRecDepth 100000 in
theorem renc_wrong6 (k : Int) (ps ts : List UInt8) (fd at_ n sn : Int) (til : Nat) (da : Option Addr) (dl dc : Nat) (c1 c2 : ByteArray) (c3 c4 c5 c7 : Int) (c6 : Nat) (c8a : Option Addr) (c8l c8c : Nat) (e1 : 1 ≤ k) (e2 : k ≤ 17) (w : World)
    (HAs : Hid (∀ W, Calls Try.prog 18 #[.agg (ovCells k c1 c2 c3 c4 c5 c6 c7 c8a c8l c8c)] W fun e w' => e = .returned (.agg (ovCells k (strOf ps) (strOf ts) fd at_ n til sn da dl dc)) ∧ Below W.heap.size W w'))
    (F1 : ((strOf ps).size : Int) ≤ 200) (F2 : ((strOf ts).size : Int) ≤ 200) (F3 : (dl : Int) ≤ 600) (G0 : shortI fd = true) (G1 : shortI at_ = true) (G2 : shortI n = true) (G3 : shortI sn = false) :
    Calls Try.prog 12 #[.agg (ovCells k c1 c2 c3 c4 c5 c6 c7 c8a c8l c8c)] w fun e w' => e = .returned (.tuple #[.slice none 0 0, .int .i64 1]) ∧ Below w.heap.size w w' := by
  obtain ⟨H, hH⟩ : ∃ H, H = w.heap.size := ⟨_, rfl⟩
  have HH := Lib.hid hH
  unfold ovCells at HAs ⊢
  go_enter Try.func12, Try.ntmps12
  go_upto_region 3 with fail
  have hO := OvAt.of (heap_alloc_new w (.cells (ovCells k c1 c2 c3 c4 c5 c6 c7 c8a c8l c8c) 25))
  have hE0 := (Ext.refl w).alloc (.cells (ovCells k c1 c2 c3 c4 c5 c6 c7 c8a c8l c8c) 25)
  have hlt : w.heap.size < (w.alloc (.cells (ovCells k c1 c2 c3 c4 c5 c6 c7 c8a c8l c8c) 25)).heap.size := size_alloc _ _
  unfold ovCells at hO hE0 hlt
  rw [← hH] at hO hE0 hlt ⊢
  clear hH
  generalize w.alloc _ = w0 at *
  have HO := Lib.hid hO
  obtain ⟨k0, k1, k2, k3, k4, k5, k6, k7, k8⟩ := hO
  go_wp2_with fail
  refine (HAs.out _).mono ?_
  rintro e w1 ⟨rfl, hb1⟩
  clear k0 k1 k2 k3 k4 k5 k6 k7 k8 HAs
  have hO := HO.out.below hb1 hlt
  have hE1 := (hE0.step hb1).alloc (.cells (ovCells k (strOf ps) (strOf ts) fd at_ n til sn da dl dc) 25)
  have hX := OvAt.of (heap_alloc_new w1 (.cells (ovCells k (strOf ps) (strOf ts) fd at_ n til sn da dl dc) 25))
  have hlt1 := Nat.lt_of_lt_of_le hlt hb1.size
  have hO1 := hO.below (Below.alloc (Below.refl _ _) (Nat.le_refl _) (.cells (ovCells k (strOf ps) (strOf ts) fd at_ n til sn da dl dc) 25)) hlt1
  have hltX : w1.heap.size < (w1.alloc (.cells (ovCells k (strOf ps) (strOf ts) fd at_ n til sn da dl dc) 25)).heap.size := size_alloc _ _
  have hltH := Nat.lt_trans hlt1 hltX
  unfold ovCells at hE1 hX hO1 hltX hltH
  clear hO HO hb1 hE0 hlt hlt1
  go_upto_region 4 with fail
  generalize w1.alloc _ = w2 at *
  generalize w1.heap.size = X at *
  have HO := Lib.hid hO1
  have HX := Lib.hid hX
  clear hO1
  obtain ⟨x0, x1, x2, x3, x4, x5, x6, x7, x8⟩ := hX
  go_wp2_with fail
  refine (refshort_any fd true G0 _).mono ?_
  rintro e w3 ⟨rfl, rfl⟩
  go_wp2_with fail
  refine (refshort_any at_ true G1 _).mono ?_
  rintro e w3 ⟨rfl, rfl⟩
  go_wp2_with fail
  refine (refshort_any n true G2 _).mono ?_
  rintro e w3 ⟨rfl, rfl⟩
  go_wp2_with fail
  refine (refshort_any sn false G3 _).mono ?_
  rintro e w3 ⟨rfl, rfl⟩
  go_wp2_with fail
  go_ret2
  rw [← HH.out]
  exact ⟨rfl, hE1.1⟩
end Go.Proofs.Ytphjdlckoddgmaa
