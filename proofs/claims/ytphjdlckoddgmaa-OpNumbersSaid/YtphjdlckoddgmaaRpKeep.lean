/- Contracts of permafrostbook.Same at strings and of permafrostkeep.Reply, where both sides are alike. -/
import Derived.Test.YtphjdlckoddgmaaRpEnc
import Derived.Deep.DeepCutAuto
namespace Go.Proofs.Ytphjdlckoddgmaa
open Go.RowKit

set_option maxRecDepth 100000 in
theorem same_strs (a : Option Addr) (ca : Nat) (b : Option Addr) (cb len : Nat) (xs : List (List UInt8)) (w : World) (hA : Ss w a len ca xs) (hB : Ss w b len cb xs) :
    Calls Try.prog 64 #[.slice a len ca, .slice b len cb] w fun e w' => e = .returned (.bool true) ∧ Below w.heap.size w w' := by
  have hxl := hA.1
  have hmx : len ≤ 9223372036854775807 := Nat.le_trans hA.2.1 (Nat.le_trans hA.2.2.1 (by unfold maxLen; decide))
  have hx0 : ((len : Int) != (len : Int)) = false := by simp
  have HA := Lib.hid hA
  have HBB := Lib.hid hB
  clear hA hB
  go_enter Try.func64, Try.ntmps64
  go_wp2_with fail
  go_loopw [5] (fun i wr => ∃ k : Nat, k ≤ len ∧ i = .int .i64 k ∧ Ext w.heap.size w wr) (fun i _ => len - (intOf i).toNat)
  case atStart => exact ⟨0, by omega, rfl, Ext.refl w⟩
  case round =>
    obtain ⟨k, hk, rfl, hE⟩ := hrel
    by_cases hlt : k < len
    · obtain ⟨p, o1, rfl, hp, hc1⟩ := HA.out.at (by omega)
      obtain ⟨q, o2, rfl, hq, hc2⟩ := HBB.out.at (by omega)
      have c1 := (hE.1.cell (p := ⟨p, o1 + k, none⟩) hp).trans (hc1 k (by omega))
      have c2 := (hE.1.cell (p := ⟨q, o2 + k, none⟩) hq).trans (hc2 k (by omega))
      have hne : (!((strOf xs[k]).toList == (strOf xs[k]).toList)) = false := by simp
      have hk0 : (0 : Int) ≤ (k : Int) := by omega
      have hkl : (k : Int) < (len : Int) := by omega
      generalize xs[k] = x at *
      clear hc1 hc2
      go_wp2_with fail
      go_region
      go_wp2_with fail
      go_roundw
      case rel => exact ⟨k + 1, by omega, by go_num, hE.drew⟩
      case measure => simp [intOf]; omega
    · obtain rfl : k = len := by omega
      go_wp2_with fail
      go_ret
      exact ⟨rfl, hE.1⟩

set_option maxHeartbeats 4000000 in
set_option maxRecDepth 100000 in
theorem keeprp_same (e n : Int) (da1 da2 : Option Addr) (dl dc1 dc2 : Nat) (ds : List UInt8) (na1 na2 : Option Addr) (nl nc1 nc2 : Nat) (ls : List (List UInt8)) (nd : Nd) (w : World) (hB1 : Bs w da1 dl dc1 ds) (hB2 : Bs w da2 dl dc2 ds) (hS1 : Ss w na1 nl nc1 ls) (hS2 : Ss w na2 nl nc2 ls) :
    Calls Try.prog 27 #[.agg (rpCells e n da1 dl dc1 na1 nl nc1 nd), .agg (rpCells e n da2 dl dc2 na2 nl nc2 nd)] w fun e' w' => e' = .returned (.bool true) ∧ Below w.heap.size w w' := by
  obtain ⟨w1, hw1⟩ : ∃ w1, w1 = w.alloc (.cells (rpCells e n da1 dl dc1 na1 nl nc1 nd) 45) := ⟨_, rfl⟩
  have hc1 := heap_alloc_new w (.cells (rpCells e n da1 dl dc1 na1 nl nc1 nd) 45)
  have hE1 := (Ext.refl w).alloc (.cells (rpCells e n da1 dl dc1 na1 nl nc1 nd) 45)
  have hB1 := hB1.alloc (.cells (rpCells e n da1 dl dc1 na1 nl nc1 nd) 45)
  have hB2 := hB2.alloc (.cells (rpCells e n da1 dl dc1 na1 nl nc1 nd) 45)
  have hS1 := hS1.alloc (.cells (rpCells e n da1 dl dc1 na1 nl nc1 nd) 45)
  have hS2 := hS2.alloc (.cells (rpCells e n da1 dl dc1 na1 nl nc1 nd) 45)
  have hK : (w.alloc (.cells (rpCells e n da1 dl dc1 na1 nl nc1 nd) 45)).heap.size = w.heap.size + 1 := by simp
  rw [← hw1] at hc1 hE1 hB1 hB2 hS1 hS2 hK
  obtain ⟨w2, hw2⟩ : ∃ w2, w2 = w1.alloc (.cells (rpCells e n da2 dl dc2 na2 nl nc2 nd) 45) := ⟨_, rfl⟩
  have hc2 := heap_alloc_new w1 (.cells (rpCells e n da2 dl dc2 na2 nl nc2 nd) 45)
  have hE2 := hE1.alloc (.cells (rpCells e n da2 dl dc2 na2 nl nc2 nd) 45)
  have hd1 := (Below.heap_alloc w1 (.cells (rpCells e n da2 dl dc2 na2 nl nc2 nd) 45) w.heap.size (by omega)).trans hc1
  have hB1 := hB1.alloc (.cells (rpCells e n da2 dl dc2 na2 nl nc2 nd) 45)
  have hB2 := hB2.alloc (.cells (rpCells e n da2 dl dc2 na2 nl nc2 nd) 45)
  have hS1 := hS1.alloc (.cells (rpCells e n da2 dl dc2 na2 nl nc2 nd) 45)
  have hS2 := hS2.alloc (.cells (rpCells e n da2 dl dc2 na2 nl nc2 nd) 45)
  rw [← hw2] at hc2 hE2 hd1 hB1 hB2 hS1 hS2
  rw [hK] at hc2
  have HW1 := Lib.hid hw1
  have HW2 := Lib.hid hw2
  unfold rpCells at *
  clear hw1 hw2 hK hc1 hE1
  have C := cells_at hd1
  have D := cells_at hc2
  have hl1 := lt_of_heap hd1
  have hl2 := lt_of_heap hc2
  have c0 := C 0; have c1 := C 1; have c2 := C 2; have c3 := C 3; have c4 := C 4; have c5 := C 5; have c6 := C 6; have c7 := C 7; have c8 := C 8; have c9 := C 9
  have d0 := D 0; have d1 := D 1; have d2 := D 2; have d3 := D 3; have d4 := D 4; have d5 := D 5; have d6 := D 6; have d7 := D 7; have d8 := D 8; have d9 := D 9
  simp only [List.getElem?_toArray, List.getElem?_cons_zero, List.getElem?_cons_succ] at c0 c1 c2 c3 c4 c5 c6 c7 c8 c9 d0 d1 d2 d3 d4 d5 d6 d7 d8 d9
  clear C D hd1 hc2
  have s1 := run_string hB1
  have s2 := run_string hB2
  have z0 : ((strOf ds).toList == (strOf ds).toList) = true := beq_self_eq_true _
  have HC := Lib.hid (And.intro c4 (And.intro c5 (And.intro c6 (And.intro c7 (And.intro c8 c9)))))
  have HD := Lib.hid (And.intro d4 (And.intro d5 (And.intro d6 (And.intro d7 (And.intro d8 d9)))))
  go_enter Try.func27, Try.ntmps27
  go_upto_region 1 with fail
  rw [← HW1.out, ← HW2.out]
  go_wp2_with fail
  refine (same_strs na1 nc1 na2 nc2 nl ls w2 hS1 hS2).mono ?_
  rintro e' w3 ⟨rfl, hb3⟩
  have hE3 := hE2.step hb3
  clear c0 c1 c2 c3 c4 c5 c6 c7 c8 c9 d0 d1 d2 d3 d4 d5 d6 d7 d8 d9 s1 s2 hE2
  have c4 := (hb3.cell (p := ⟨w.heap.size, 4, none⟩) hl1).trans HC.out.1
  have c5 := (hb3.cell (p := ⟨w.heap.size, 5, none⟩) hl1).trans HC.out.2.1
  have c6 := (hb3.cell (p := ⟨w.heap.size, 6, none⟩) hl1).trans HC.out.2.2.1
  have c7 := (hb3.cell (p := ⟨w.heap.size, 7, none⟩) hl1).trans HC.out.2.2.2.1
  have c8 := (hb3.cell (p := ⟨w.heap.size, 8, none⟩) hl1).trans HC.out.2.2.2.2.1
  have c9 := (hb3.cell (p := ⟨w.heap.size, 9, none⟩) hl1).trans HC.out.2.2.2.2.2
  have d4 := (hb3.cell (p := ⟨w.heap.size + 1, 4, none⟩) hl2).trans HD.out.1
  have d5 := (hb3.cell (p := ⟨w.heap.size + 1, 5, none⟩) hl2).trans HD.out.2.1
  have d6 := (hb3.cell (p := ⟨w.heap.size + 1, 6, none⟩) hl2).trans HD.out.2.2.1
  have d7 := (hb3.cell (p := ⟨w.heap.size + 1, 7, none⟩) hl2).trans HD.out.2.2.2.1
  have d8 := (hb3.cell (p := ⟨w.heap.size + 1, 8, none⟩) hl2).trans HD.out.2.2.2.2.1
  have d9 := (hb3.cell (p := ⟨w.heap.size + 1, 9, none⟩) hl2).trans HD.out.2.2.2.2.2
  have hsm : nd.same nd = true := (Nd.same_iff nd nd).2 rfl
  have HSM := Lib.hid hsm
  clear hb3 hsm hl1 hl2
  go_wp2_with (refine wpList_eql_nodes _ _ (by rfl) (by rfl) nd nd (by rfl) (by rfl) ?_)
  go_ret
  exact ⟨ret_bool HSM.out, hE3.1⟩
end Go.Proofs.Ytphjdlckoddgmaa
