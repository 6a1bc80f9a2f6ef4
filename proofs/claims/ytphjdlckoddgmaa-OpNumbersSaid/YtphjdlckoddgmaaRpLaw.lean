/- The law's own functions of chapter 15 on replies: sameReply, readReply. -/
import Derived.Test.YtphjdlckoddgmaaRpRefDec
import Derived.Test.YtphjdlckoddgmaaRpDec
import Derived.Test.YtphjdlckoddgmaaRpKeep
import Derived.Deep.DeepCutAuto
namespace Go.Proofs.Ytphjdlckoddgmaa
open Go.RowKit

set_option maxHeartbeats 4000000 in
set_option maxRecDepth 100000 in
theorem law15_samerp (e n : Int) (da : Option Addr) (dl dc : Nat) (ds : List UInt8) (na : Option Addr) (nl nc : Nat) (ls : List (List UInt8)) (nd : Nd) (w : World) (hB : Bs w da dl dc ds) (hS : Ss w na nl nc ls) :
    Calls Try.prog 22 #[.agg (rpCells e n da dl dc na nl nc nd)] w fun e' w' => e' = .returned (.bool true) ∧ Below w.heap.size w w' := by
  have HE1 := Lib.hid (fun w h h' => oprenc_any e n da dl dc ds na nl nc ls nd w h h')
  have HE2 := Lib.hid (fun w h h' => rrpenc_any e n da dl dc ds na nl nc ls nd w h h')
  generalize rpEnc ⟨e, n, ds, ls, nd⟩ = E at *
  obtain ⟨L, r⟩ := E
  have hO := heap_alloc_new w (.cells (rpCells e n da dl dc na nl nc nd) 45)
  have hE0 := (Ext.refl w).alloc (.cells (rpCells e n da dl dc na nl nc nd) 45)
  have hB0 := hB.alloc (.cells (rpCells e n da dl dc na nl nc nd) 45)
  have hS0 := hS.alloc (.cells (rpCells e n da dl dc na nl nc nd) 45)
  unfold rpCells at *
  simp only at HE1 HE2
  obtain ⟨H, hH⟩ : ∃ H, H = w.heap.size := ⟨_, rfl⟩
  rw [← hH] at hO hE0
  have HH := Lib.hid hH
  go_enter Try.func22, Try.ntmps22
  go_upto_region 1 with fail
  rw [← hH]
  clear hH hB hS
  generalize w.alloc _ = w0 at *
  have HO := Lib.hid hO
  have c := cells_at hO
  have c0 := c 0; have c1 := c 1; have c2 := c 2; have c3 := c 3; have c4 := c 4; have c5 := c 5; have c6 := c 6; have c7 := c 7; have c8 := c 8; have c9 := c 9
  simp only [List.getElem?_toArray, List.getElem?_cons_zero, List.getElem?_cons_succ] at c0 c1 c2 c3 c4 c5 c6 c7 c8 c9
  clear c hO
  go_wp2_with fail
  refine (HE1.out _ hB0 hS0).mono ?_
  rintro e w1 ⟨v1, rfl, ho1, hb1⟩
  obtain ⟨a1, m1, rfl, hL1⟩ := ho1.bs
  have hE1 := hE0.step hb1
  have hB1 := hB0.below hb1
  have hS1 := hS0.below hb1
  have hO1 := (hb1.block H (lt_of_heap HO.out)).trans HO.out
  clear c0 c1 c2 c3 c4 c5 c6 c7 c8 c9 HO HE1 ho1 hE0 hB0 hS0 hb1
  have c := cells_at hO1
  have c0 := c 0; have c1 := c 1; have c2 := c 2; have c3 := c 3; have c4 := c 4; have c5 := c 5; have c6 := c 6; have c7 := c 7; have c8 := c 8; have c9 := c 9
  simp only [List.getElem?_toArray, List.getElem?_cons_zero, List.getElem?_cons_succ] at c0 c1 c2 c3 c4 c5 c6 c7 c8 c9
  clear c hO1
  go_wp2_with fail
  refine (HE2.out _ hB1 hS1).mono ?_
  rintro e w2 ⟨v2, rfl, ho2, hb2⟩
  obtain ⟨a2, m2, rfl, hL2⟩ := ho2.bs
  have hE2 := hE1.step hb2
  have hL1 := hL1.below hb2
  have s1 := run_string hL1
  have s2 := run_string hL2
  have z1 : ((strOf L).toList == (strOf L).toList) = true := beq_self_eq_true _
  have z2 : ((r : Int) == (r : Int)) = true := beq_self_eq_true _
  clear c0 c1 c2 c3 c4 c5 c6 c7 c8 c9 HE2 ho2 hE1 hB1 hS1 hb2 hL1 hL2
  go_wp2_with fail
  go_ret
  rw [← HH.out]
  exact ⟨rfl, hE2.1⟩

set_option maxHeartbeats 4000000 in
set_option maxRecDepth 100000 in
theorem law15_readrp (a : Option Addr) (len cap : Nat) (xs : List UInt8) (w : World) (h : Bs w a len cap xs) (hl : len ≤ big) :
    Calls Try.prog 23 #[.slice a len cap] w fun e w' => e = .returned (.bool true) ∧ Below w.heap.size w w' := by
  go_enter Try.func23, Try.ntmps23
  go_wp2_with fail
  refine (oprdec_any a len cap xs w h hl).mono ?_
  rintro e w1 ⟨⟨dv, nv, rfl, hod, hon⟩, hb1⟩
  have hE1 := (Ext.refl w).step hb1
  have h1 := h.below hb1
  have HC2 := Lib.hid (fun w h => rrpdec_any a len cap xs w h hl)
  unfold RpPost at HC2
  generalize rpDec xs = D at *
  obtain ⟨⟨er, n, ds, ls, nd⟩, r⟩ := D
  simp only at hod hon HC2 ⊢
  obtain ⟨DL, hDL⟩ : ∃ k, ds.length = k := ⟨_, rfl⟩
  obtain ⟨NL, hNL⟩ : ∃ k, ls.length = k := ⟨_, rfl⟩
  obtain ⟨da, dc, rfl, hB1⟩ := hod.bsn hDL
  obtain ⟨na, nc, rfl, hS1⟩ := hon.ss hNL
  unfold rpV at HC2 ⊢
  simp only at HC2 ⊢
  have hX := heap_alloc_new w1 (.cells (rpCells er n da DL dc na NL nc nd) 45)
  have hE2 := hE1.alloc (.cells (rpCells er n da DL dc na NL nc nd) 45)
  have h2 := h1.alloc (.cells (rpCells er n da DL dc na NL nc nd) 45)
  have hB2 := hB1.alloc (.cells (rpCells er n da DL dc na NL nc nd) 45)
  have hS2 := hS1.alloc (.cells (rpCells er n da DL dc na NL nc nd) 45)
  unfold rpCells at hX hE2 h2 hB2 hS2
  clear hod hon hb1 hE1 h1 hB1 hS1 h
  go_upto_region 2 with fail
  generalize w1.alloc _ = w2 at *
  generalize w1.heap.size = X at *
  have HX := Lib.hid hX
  clear hX
  go_wp2_with fail
  refine (HC2.out _ h2).mono ?_
  rintro e w3 ⟨⟨dv3, nv3, rfl, hod3, hon3⟩, hb3⟩
  obtain ⟨da3, dc3, rfl, hB3⟩ := hod3.bsn hDL
  obtain ⟨na3, nc3, rfl, hS3⟩ := hon3.ss hNL
  have hE3 := hE2.step hb3
  have hB2 := hB2.below hb3
  have hS2 := hS2.below hb3
  have hX3 := (hb3.block X (lt_of_heap HX.out)).trans HX.out
  clear HX HC2 hod3 hon3 hb3 h2 hE2
  have hY := heap_alloc_new w3 (.cells (rpCells er n da3 DL dc3 na3 NL nc3 nd) 45)
  have hE4 := hE3.alloc (.cells (rpCells er n da3 DL dc3 na3 NL nc3 nd) 45)
  have hB4 := hB2.alloc (.cells (rpCells er n da3 DL dc3 na3 NL nc3 nd) 45)
  have hS4 := hS2.alloc (.cells (rpCells er n da3 DL dc3 na3 NL nc3 nd) 45)
  have hB5 := hB3.alloc (.cells (rpCells er n da3 DL dc3 na3 NL nc3 nd) 45)
  have hS5 := hS3.alloc (.cells (rpCells er n da3 DL dc3 na3 NL nc3 nd) 45)
  have hX4 := (Below.heap_alloc w3 (.cells (rpCells er n da3 DL dc3 na3 NL nc3 nd) 45) _ (lt_of_heap hX3)).trans hX3
  unfold rpCells at hY hE4 hB4 hS4 hB5 hS5 hX4
  clear hE3 hB2 hS2 hB3 hS3 hX3 hDL hNL
  go_upto_region 3 with fail
  generalize w3.alloc _ = w4 at *
  generalize w3.heap.size = Y at *
  have HK := Lib.hid (keeprp_same er n da da3 DL dc dc3 ds na na3 NL nc nc3 ls nd w4 hB4 hB5 hS4 hS5)
  unfold rpCells at HK
  have c := cells_at hX4
  have c0 := c 0; have c1 := c 1; have c2 := c 2; have c3 := c 3; have c4 := c 4; have c5 := c 5; have c6 := c 6; have c7 := c 7; have c8 := c 8; have c9 := c 9
  have d := cells_at hY
  have d0 := d 0; have d1 := d 1; have d2 := d 2; have d3 := d 3; have d4 := d 4; have d5 := d 5; have d6 := d 6; have d7 := d 7; have d8 := d 8; have d9 := d 9
  simp only [List.getElem?_toArray, List.getElem?_cons_zero, List.getElem?_cons_succ] at c0 c1 c2 c3 c4 c5 c6 c7 c8 c9 d0 d1 d2 d3 d4 d5 d6 d7 d8 d9
  have z2 : ((r : Int) == (r : Int)) = true := beq_self_eq_true _
  clear hB4 hB5 hS4 hS5 hX4 hY c d
  go_wp2_with fail
  refine HK.out.mono ?_
  rintro e w5 ⟨rfl, hb5⟩
  have hE5 := hE4.step hb5
  clear c0 c1 c2 c3 c4 c5 c6 c7 c8 c9 d0 d1 d2 d3 d4 d5 d6 d7 d8 d9 HK hb5 hE4
  go_wp2_with fail
  go_ret
  exact ⟨rfl, hE5.1⟩
end Go.Proofs.Ytphjdlckoddgmaa
