/- The law's own functions of chapter 15: same, read. -/
import Derived.Test.YtphjdlckoddgmaaOpKeep
import Derived.Test.YtphjdlckoddgmaaOpRefDec
import Derived.Deep.DeepCutAuto
namespace Go.Proofs.Ytphjdlckoddgmaa
open Go.RowKit

set_option maxHeartbeats 4000000 in
set_option maxRecDepth 100000 in
theorem law15_same (k : Int) (ps ts : List UInt8) (fd at_ n : Int) (til : Nat) (sn : Int) (da : Option Addr) (dl dc : Nat) (ds : List UInt8) (w : World) (hB : Bs w da dl dc ds) :
    Calls Try.prog 13 #[.agg (ovCells k (strOf ps) (strOf ts) fd at_ n til sn da dl dc)] w fun e w' => e = .returned (.bool true) ∧ Below w.heap.size w w' := by
  have HE1 := Lib.hid (fun w h => openc_any k ps ts fd at_ n til sn da dl dc ds w h)
  have HE2 := Lib.hid (fun w h => renc_any k ps ts fd at_ n til sn da dl dc ds w h)
  generalize opEnc ⟨k, ps, ts, fd, at_, n, til, sn, ds⟩ = E at *
  obtain ⟨L, r⟩ := E
  have hO := OvAt.of (heap_alloc_new w (.cells (ovCells k (strOf ps) (strOf ts) fd at_ n til sn da dl dc) 25))
  have hE0 := (Ext.refl w).alloc (.cells (ovCells k (strOf ps) (strOf ts) fd at_ n til sn da dl dc) 25)
  have hB0 := hB.alloc (.cells (ovCells k (strOf ps) (strOf ts) fd at_ n til sn da dl dc) 25)
  have hlt := size_alloc w (.cells (ovCells k (strOf ps) (strOf ts) fd at_ n til sn da dl dc) 25)
  unfold ovCells at *
  simp only at HE1 HE2
  obtain ⟨H, hH⟩ : ∃ H, H = w.heap.size := ⟨_, rfl⟩
  rw [← hH] at hO hE0 hlt
  have HH := Lib.hid hH
  go_enter Try.func13, Try.ntmps13
  go_upto_region 1 with fail
  rw [← hH]
  clear hH hB
  generalize w.alloc _ = w0 at *
  have HO := Lib.hid hO
  obtain ⟨c0, c1, c2, c3, c4, c5, c6, c7, c8⟩ := hO
  go_wp2_with fail
  refine (HE1.out _ hB0).mono ?_
  rintro e w1 ⟨v1, rfl, ho1, hb1⟩
  obtain ⟨a1, m1, rfl, hL1⟩ := ho1.bs
  have hE1 := hE0.step hb1
  have hB1 := hB0.below hb1
  have hO1 := HO.out.below hb1 hlt
  clear c0 c1 c2 c3 c4 c5 c6 c7 c8 HO HE1 ho1 hE0 hB0 hb1 hlt
  obtain ⟨c0, c1, c2, c3, c4, c5, c6, c7, c8⟩ := hO1
  go_wp2_with fail
  refine (HE2.out _ hB1).mono ?_
  rintro e w2 ⟨v2, rfl, ho2, hb2⟩
  obtain ⟨a2, m2, rfl, hL2⟩ := ho2.bs
  have hE2 := hE1.step hb2
  have hL1 := hL1.below hb2
  have s1 := run_string hL1
  have s2 := run_string hL2
  have z1 : ((strOf L).toList == (strOf L).toList) = true := beq_self_eq_true _
  have z2 : ((r : Int) == (r : Int)) = true := beq_self_eq_true _
  clear c0 c1 c2 c3 c4 c5 c6 c7 c8 HE2 ho2 hE1 hB1 hb2 hL1 hL2
  go_wp2_with fail
  go_ret
  rw [← HH.out]
  exact ⟨rfl, hE2.1⟩

set_option maxHeartbeats 4000000 in
set_option maxRecDepth 100000 in
theorem law15_read (a : Option Addr) (len cap : Nat) (xs : List UInt8) (w : World) (h : Bs w a len cap xs) (hl : len ≤ big) :
    Calls Try.prog 14 #[.slice a len cap] w fun e w' => e = .returned (.bool true) ∧ Below w.heap.size w w' := by
  go_enter Try.func14, Try.ntmps14
  go_wp2_with fail
  refine (opdec_any a len cap xs w h hl).mono ?_
  rintro e w1 ⟨⟨v1, rfl, ho1⟩, hb1⟩
  have hE1 := (Ext.refl w).step hb1
  have h1 := h.below hb1
  have HC2 := Lib.hid (fun w h => rdecop_any a len cap xs w h hl)
  unfold DecPost at HC2
  generalize opDec xs = D at *
  obtain ⟨o, r⟩ := D
  simp only at ho1 HC2 ⊢
  obtain ⟨a1, m1, rfl, hL1⟩ := ho1.bs
  obtain ⟨k, p, t, f, q, n, u, s, d⟩ := o
  unfold opCells at HC2 ⊢
  simp only at HC2 hL1 ⊢
  have hX := OvAt.of (heap_alloc_new w1 (.cells (ovCells k (strOf p) (strOf t) f q n u s a1 d.length m1) 25))
  have hE2 := hE1.alloc (.cells (ovCells k (strOf p) (strOf t) f q n u s a1 d.length m1) 25)
  have h2 := h1.alloc (.cells (ovCells k (strOf p) (strOf t) f q n u s a1 d.length m1) 25)
  have hL2 := hL1.alloc (.cells (ovCells k (strOf p) (strOf t) f q n u s a1 d.length m1) 25)
  have hlt := size_alloc w1 (.cells (ovCells k (strOf p) (strOf t) f q n u s a1 d.length m1) 25)
  unfold ovCells at hX hE2 h2 hL2 hlt
  clear ho1 hb1 hE1 h1 hL1 h
  go_upto_region 2 with fail
  generalize w1.alloc _ = w2 at *
  generalize w1.heap.size = X at *
  have HX := Lib.hid hX
  clear hX
  go_wp2_with fail
  refine (HC2.out _ h2).mono ?_
  rintro e w3 ⟨⟨v3, rfl, ho3⟩, hb3⟩
  obtain ⟨a3, m3, rfl, hL3⟩ := ho3.bs
  have hE3 := hE2.step hb3
  have hL2 := hL2.below hb3
  have hX3 := HX.out.below hb3 hlt
  have hlt3 := Nat.lt_of_lt_of_le hlt hb3.size
  clear HX HC2 ho3 hb3 h2 hE2 hlt
  have hY := OvAt.of (heap_alloc_new w3 (.cells (ovCells k (strOf p) (strOf t) f q n u s a3 d.length m3) 25))
  have hE4 := hE3.alloc (.cells (ovCells k (strOf p) (strOf t) f q n u s a3 d.length m3) 25)
  have hL4 := hL2.alloc (.cells (ovCells k (strOf p) (strOf t) f q n u s a3 d.length m3) 25)
  have hL5 := hL3.alloc (.cells (ovCells k (strOf p) (strOf t) f q n u s a3 d.length m3) 25)
  have hX4 := hX3.below (Below.alloc (Below.refl _ _) (Nat.le_refl _) (.cells (ovCells k (strOf p) (strOf t) f q n u s a3 d.length m3) 25)) hlt3
  unfold ovCells at hY hE4 hL4 hL5 hX4
  clear hE3 hL2 hL3 hX3 hlt3
  go_upto_region 3 with fail
  generalize w3.alloc _ = w4 at *
  generalize w3.heap.size = Y at *
  have HK := Lib.hid (keepop_any k k p p t t f f q q n n s s u u a1 a3 d.length d.length m1 m3 d d w4 hL4 hL5)
  unfold ovCells at HK
  rw [decide_eq_true (by simp)] at HK
  obtain ⟨c0, c1, c2, c3, c4, c5, c6, c7, c8⟩ := hX4
  obtain ⟨d0, d1, d2, d3, d4, d5, d6, d7, d8⟩ := hY
  have z2 : ((r : Int) == (r : Int)) = true := beq_self_eq_true _
  clear hL4 hL5
  go_wp2_with fail
  refine HK.out.mono ?_
  rintro e w5 ⟨rfl, hb5⟩
  have hE5 := hE4.step hb5
  clear c0 c1 c2 c3 c4 c5 c6 c7 c8 d0 d1 d2 d3 d4 d5 d6 d7 d8 HK hb5 hE4
  go_wp2_with fail
  go_ret
  exact ⟨rfl, hE5.1⟩

end Go.Proofs.Ytphjdlckoddgmaa
