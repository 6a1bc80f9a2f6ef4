/- The walk of LayoutNumbers. -/
import Derived.Test.YtmedamofmlkccaaSupAny
import Derived.Deep.DeepCutAuto
namespace Go.Proofs.Ytmedamofmlkccaa
open Go.RowKit

def nums15 : Array Value := #[.int .i64 (-1), .int .i64 0, .int .i64 63, .int .i64 64, .int .i64 65, .int .i64 66, .int .i64 67, .int .i64 71, .int .i64 72, .int .i64 73, .int .i64 100, .int .i64 1024, .int .i64 4095, .int .i64 4096, .int .i64 4097]
theorem nums15_at (i : Nat) (hi : i < 15) : ∃ n : Int, nums15[i]? = some (.int .i64 n) ∧ -1 ≤ n ∧ n ≤ 4097 := by
  have h : i = 0 ∨ i = 1 ∨ i = 2 ∨ i = 3 ∨ i = 4 ∨ i = 5 ∨ i = 6 ∨ i = 7 ∨ i = 8 ∨ i = 9 ∨ i = 10 ∨ i = 11 ∨ i = 12 ∨ i = 13 ∨ i = 14 := by omega
  rcases h with rfl | rfl | rfl | rfl | rfl | rfl | rfl | rfl | rfl | rfl | rfl | rfl | rfl | rfl | rfl <;> exact ⟨_, rfl, by decide, by decide⟩
theorem seven_at (a b : Int) (i : Nat) (hi : i < 7) : ∃ n : Int, (#[.int .i64 (-1), .int .i64 0, .int .i64 1, .int .i64 2, .int .i64 3, .int .i64 a, .int .i64 b] : Array Value)[i]? = some (.int .i64 n) := by
  have h : i = 0 ∨ i = 1 ∨ i = 2 ∨ i = 3 ∨ i = 4 ∨ i = 5 ∨ i = 6 := by omega
  rcases h with rfl | rfl | rfl | rfl | rfl | rfl | rfl <;> exact ⟨_, rfl⟩
theorem four_at (i : Nat) (hi : i < 4) : ∃ n : Nat, (#[.int .i64 0, .int .i64 15, .int .i64 16, .int .i64 17] : Array Value)[i]? = some (.int .i64 (n : Int)) ∧ n ≤ 17 := by
  have h : i = 0 ∨ i = 1 ∨ i = 2 ∨ i = 3 := by omega
  rcases h with rfl | rfl | rfl | rfl
  · exact ⟨0, rfl, by omega⟩
  · exact ⟨15, rfl, by omega⟩
  · exact ⟨16, rfl, by omega⟩
  · exact ⟨17, rfl, by omega⟩
/-- the plan that Of answers, and its refusal -/
theorem ofV_parts (n : Int) : ∃ s p g c, ofV n = .tuple #[.agg #[.int .i64 s, .int .i64 p, .int .i64 g], .int .i64 c] ∧ 0 ≤ p ∧ p ≤ 4096 ∧ 0 ≤ g ∧ g ≤ 4096 := by
  unfold ofV
  by_cases h : n < 64 ∨ 4096 < n
  · rw [if_pos h]; exact ⟨0, 0, 0, 1, rfl, by omega, by omega, by omega, by omega⟩
  · rw [if_neg h]
    have := seg_bd n (by omega) (by omega)
    exact ⟨n, n / 4, seg n, 0, rfl, by omega, by omega, by omega, by omega⟩

set_option maxHeartbeats 8000000 in
set_option maxRecDepth 100000 in
theorem LayoutNumbers_walk (w : World) :
    Calls Try.prog 13 #[] w fun e w' => e = .returned (.bool true) ∧ Below w.heap.size w w' := by
  go_enter Try.func13, Try.ntmps13
  have hL : ∀ i, i < 15 → ∃ n : Int, (w.alloc (.cells nums15 3)).cell? ⟨w.heap.size, i, none⟩ = some (.int .i64 n) ∧ -1 ≤ n ∧ n ≤ 4097 := fun i hi => by rw [cell_new]; exact nums15_at i hi
  have hsA := size_alloc w (.cells nums15 3)
  have hEA := (Ext.refl w).alloc (.cells nums15 3)
  unfold nums15 at hL hsA hEA
  obtain ⟨A, hA⟩ : ∃ A, A = w.heap.size := ⟨_, rfl⟩
  rw [← hA] at hL hsA hEA
  have HA := Lib.hid hA
  have HL := Lib.hid hL
  clear hL
  go_wp2_with fail
  rw [← hA]
  clear hA
  generalize w.alloc _ = wA at *
  go_loopw [17] (fun i wx => ∃ j : Nat, j ≤ 15 ∧ i = .int .i64 j ∧ Ext wA.heap.size wA wx) (fun i _ => 15 - (intOf i).toNat)
  case atStart => exact ⟨0, by omega, rfl, Ext.refl _⟩
  case round =>
    obtain ⟨j, hj, rfl, hE⟩ := hrel
    by_cases hlj : j < 15
    · obtain ⟨n, hcn, hn1, hn2⟩ := HL.out j hlj
      have hcn' := hE.cel hsA hcn
      have hj0 : (0 : Int) ≤ (j : Int) := by omega
      have hj5 : (j : Int) < 15 := by omega
      clear hcn
      obtain ⟨S, p, g, c, hV, hp1, hp2, hg1, hg2⟩ := ofV_parts n
      have HR := Lib.hid (fun w => rof_any n w)
      have HO := Lib.hid (fun w => of_any n w)
      rw [hV] at HR HO
      clear hV
      go_wp2_with fail
      refine (HO.out _).mono ?_
      rintro e w1 ⟨rfl, hb1⟩
      have hE1 := hE.step hb1
      have hE2 := hE1.alloc (.cells #[.int .i64 S, .int .i64 p, .int .i64 g] 76)
      have hlX := size_alloc w1 (.cells #[.int .i64 S, .int .i64 p, .int .i64 g] 76)
      have C := cell_new w1 #[.int .i64 S, .int .i64 p, .int .i64 g] 76
      have p0 := C 0; have p1 := C 1; have p2 := C 2
      simp only [List.getElem?_toArray, List.getElem?_cons_zero, List.getElem?_cons_succ] at p0 p1 p2
      clear C hE1 hE hb1 hcn' HO
      go_upto_region 5 with fail
      generalize w1.alloc _ = w2 at *
      generalize w1.heap.size = X at *
      have HPX := Lib.hid (And.intro p0 (And.intro p1 p2))
      clear p0 p1 p2
      go_wp2_with fail
      refine (HR.out _).mono ?_
      rintro e w3 ⟨rfl, hb3⟩
      have hE3 := hE2.step hb3
      have p0 := (hb3.cell (p := ⟨X, 0, none⟩) hlX).trans HPX.out.1
      have p1 := (hb3.cell (p := ⟨X, 1, none⟩) hlX).trans HPX.out.2.1
      have p2 := (hb3.cell (p := ⟨X, 2, none⟩) hlX).trans HPX.out.2.2
      have hlX3 := Nat.lt_of_lt_of_le hlX hb3.size
      clear hE2 hb3 HPX hlX HR
      have hE4 := hE3.alloc (.cells #[.int .i64 S, .int .i64 p, .int .i64 g] 79)
      have hlY := size_alloc w3 (.cells #[.int .i64 S, .int .i64 p, .int .i64 g] 79)
      have C := cell_new w3 #[.int .i64 S, .int .i64 p, .int .i64 g] 79
      have q0 := C 0; have q1 := C 1; have q2 := C 2
      simp only [List.getElem?_toArray, List.getElem?_cons_zero, List.getElem?_cons_succ] at q0 q1 q2
      have hbY : Below w3.heap.size w3 (w3.alloc (.cells #[.int .i64 S, .int .i64 p, .int .i64 g] 79)) := Below.alloc (Below.refl _ _) (Nat.le_refl _) _
      have p0 := (hbY.cell (p := ⟨X, 0, none⟩) hlX3).trans p0
      have p1 := (hbY.cell (p := ⟨X, 1, none⟩) hlX3).trans p1
      have p2 := (hbY.cell (p := ⟨X, 2, none⟩) hlX3).trans p2
      have hlX4 := Nat.lt_trans hlX3 hlY
      clear C hE3 hlX3 hbY
      have z1 : (S != S) = false := by rw [bne, beq_self_eq_true]; rfl
      have z2 : (p != p) = false := by rw [bne, beq_self_eq_true]; rfl
      have z3 : (g != g) = false := by rw [bne, beq_self_eq_true]; rfl
      have z4 : (c != c) = false := by rw [bne, beq_self_eq_true]; rfl
      go_upto_region 6 with fail
      generalize w3.alloc _ = w4 at *
      generalize w3.heap.size = Y at *
      have hw1 : IntKind.i64.wrap (g - 1) = g - 1 := IntWalk.i64_in _ (by omega)
      have hL7 : ∀ i, i < 7 → ∃ n : Int, (w4.alloc (.cells #[.int .i64 (-1), .int .i64 0, .int .i64 1, .int .i64 2, .int .i64 3, .int .i64 (g - 1), .int .i64 g] 3)).cell? ⟨w4.heap.size, i, none⟩ = some (.int .i64 n) := fun i hi => by rw [cell_new]; exact seven_at _ _ i hi
      have HL7 := Lib.hid hL7
      clear hL7
      have hlB := size_alloc w4 (.cells #[.int .i64 (-1), .int .i64 0, .int .i64 1, .int .i64 2, .int .i64 3, .int .i64 (g - 1), .int .i64 g] 3)
      have hE5 := hE4.alloc (.cells #[.int .i64 (-1), .int .i64 0, .int .i64 1, .int .i64 2, .int .i64 3, .int .i64 (g - 1), .int .i64 g] 3)
      have hbB : Below w4.heap.size w4 (w4.alloc (.cells #[.int .i64 (-1), .int .i64 0, .int .i64 1, .int .i64 2, .int .i64 3, .int .i64 (g - 1), .int .i64 g] 3)) := Below.alloc (Below.refl _ _) (Nat.le_refl _) _
      have p0' := (hbB.cell (p := ⟨X, 0, none⟩) hlX4).trans p0
      have p1' := (hbB.cell (p := ⟨X, 1, none⟩) hlX4).trans p1
      have p2' := (hbB.cell (p := ⟨X, 2, none⟩) hlX4).trans p2
      have hlX5 := Nat.lt_trans hlX4 hlB
      obtain ⟨B, hBe⟩ : ∃ B, B = w4.heap.size := ⟨_, rfl⟩
      rw [← hBe] at HL7 hlB
      have HPX := Lib.hid (And.intro p0' (And.intro p1' p2'))
      clear p0' p1' p2' hbB hE4
      go_wp2_with fail
      rw [← hBe]
      clear hBe p0 p1 p2 q0 q1 q2 z1 z2 z3 z4 hlX4 hlY
      generalize w4.alloc _ = w5 at *
      go_loopw [62] (fun i wy => ∃ q : Nat, q ≤ 7 ∧ i = .int .i64 q ∧ Ext w5.heap.size w5 wy) (fun i _ => 7 - (intOf i).toNat)
      case atStart => exact ⟨0, by omega, rfl, Ext.refl _⟩
      case round =>
        obtain ⟨q, hq, rfl, hEy⟩ := hrel
        by_cases hlq : q < 7
        · obtain ⟨i, hci⟩ := HL7.out q hlq
          have hci' := hEy.cel hlB hci
          have p0 := hEy.cel hlX5 HPX.out.1
          have p1 := hEy.cel hlX5 HPX.out.2.1
          have p2 := hEy.cel hlX5 HPX.out.2.2
          have hq0 : (0 : Int) ≤ (q : Int) := by omega
          have hq7 : (q : Int) < 7 := by omega
          clear hci
          have hw2 : IntKind.i64.wrap (p + 1) = p + 1 := IntWalk.i64_in _ (by omega)
          go_wp2_with fail
          refine (law19_same S p g i _).mono ?_
          rintro e w6 ⟨rfl, hb6⟩
          have hE6 := hEy.step hb6
          have p1 := hE6.cel hlX5 HPX.out.2.1
          have p2 := hE6.cel hlX5 HPX.out.2.2
          clear p0 hci' hEy hb6
          go_wp2_with fail
          refine (law19_same n (p + 1) g i _).mono ?_
          rintro e w7 ⟨rfl, hb7⟩
          have hE7 := hE6.step hb7
          clear p1 p2 hE6 hb7 hw2
          go_wp2_with fail
          go_roundw
          case rel => exact ⟨q + 1, by omega, by go_num, hE7⟩
          case measure => simp [intOf]; omega
        · obtain rfl : q = 7 := by omega
          have HE : Ext wA.heap.size wA wr := hE5.to (hEy.1.mono (Nat.le_of_lt (Nat.lt_of_lt_of_le hlX5 (Nat.le_refl _)) |> fun _ => hE5.2))
          have hL4 : ∀ i, i < 4 → ∃ k : Nat, (wr.alloc (.cells #[.int .i64 0, .int .i64 15, .int .i64 16, .int .i64 17] 3)).cell? ⟨wr.heap.size, i, none⟩ = some (.int .i64 (k : Int)) ∧ k ≤ 17 := fun i hi => by rw [cell_new]; exact four_at i hi
          have hlC := size_alloc wr (.cells #[.int .i64 0, .int .i64 15, .int .i64 16, .int .i64 17] 3)
          have hE6 := HE.alloc (.cells #[.int .i64 0, .int .i64 15, .int .i64 16, .int .i64 17] 3)
          obtain ⟨D, hDe⟩ : ∃ D, D = wr.heap.size := ⟨_, rfl⟩
          rw [← hDe] at hL4 hlC
          have HL4 := Lib.hid hL4
          clear hL4 HL7 HPX hEy hE5 HE hlX5 hlB
          go_wp2_with fail
          rw [← hDe]
          clear hDe
          generalize wr.alloc _ = w6 at *
          go_loopw [85] (fun i wy => ∃ r : Nat, r ≤ 4 ∧ i = .int .i64 r ∧ Ext w6.heap.size w6 wy) (fun i _ => 4 - (intOf i).toNat)
          case atStart => exact ⟨0, by omega, rfl, Ext.refl _⟩
          case round =>
            obtain ⟨r, hr, rfl, hEz⟩ := hrel
            by_cases hlr : r < 4
            · obtain ⟨k, hck, hk17⟩ := HL4.out r hlr
              have hck' := hEz.cel hlC hck
              have hr0 : (0 : Int) ≤ (r : Int) := by omega
              have hr4 : (r : Int) < 4 := by omega
              have hmk : ∀ W, (Instr.makeSlice 26 (.int .i64 (k : Int)) (.int .i64 (k : Int))).run Try.prog W = .ok (.slice (some ⟨W.heap.size, 0, none⟩) k k) (W.alloc (.cells (madeCells #[.int .u8 0] k) TB)) := fun W => run_make_bytes k (by omega) W
              clear hck
              have hZ := (Row.zero wr k (by unfold maxLen; omega)).bs
              rw [List.length_replicate] at hZ
              have hEw := hEz.alloc (.cells (madeCells #[.int .u8 0] k) TB)
              have HS1 := Lib.hid (fun W h => sup_any n (some ⟨wr.heap.size, 0, none⟩) k k (List.replicate k 0) W h)
              have HS2 := Lib.hid (fun a W h => rsupa_any n a k k (List.replicate k 0) W h)
              have hlA := supA_len n (List.replicate k 0)
              generalize supA n (List.replicate k 0) = U at *
              obtain ⟨L, u⟩ := U
              simp only at HS1 HS2 hlA
              go_wp2_with fail
              refine (HS1.out _ hZ).mono ?_
              rintro e w7 ⟨v7, rfl, ho7, hb7⟩
              have hE7 := hEw.step hb7
              obtain ⟨a7, c7, rfl, hB7⟩ := ho7.bs
              clear hZ hEz hEw hck' ho7 hb7 HS1
              have hZ := (Row.zero w7 k (by unfold maxLen; omega)).bs
              rw [List.length_replicate] at hZ
              have hEw := hE7.alloc (.cells (madeCells #[.int .u8 0] k) TB)
              have hB8 := hB7.alloc (.cells (madeCells #[.int .u8 0] k) TB)
              go_wp2_with fail
              refine (HS2.out _ _ hZ).mono ?_
              rintro e w9 ⟨v9, rfl, ho9, hb9⟩
              have hE9 := hEw.step hb9
              obtain ⟨a9, c9, rfl, hB9⟩ := ho9.bs
              have hB10 := hB8.below hb9
              clear hZ hE7 hEw hB7 hB8 ho9 hb9 HS2 hmk
              have s1 := run_string hB10
              have s2 := run_string hB9
              have z1 : (!(strOf L).toList == (strOf L).toList) = false := by rw [beq_self_eq_true]; rfl
              have z2 : (u != u) = false := by rw [bne, beq_self_eq_true]; rfl
              go_wp2_with fail
              refine (law19_read _ L.length _ L _ hB9 (by unfold big; omega)).mono ?_
              rintro e w11 ⟨rfl, hb11⟩
              have hE11 := hE9.step hb11
              clear s1 s2 z1 z2 hB9 hB10 hE9 hb11
              go_wp2_with fail
              go_roundw
              case rel =>
                (repeat apply Exists.intro)
                refine ⟨⟨r + 1, by omega, by go_num, hE11⟩, rfl⟩
              case measure => simp [intOf]; omega
            · obtain rfl : r = 4 := by omega
              have HE : Ext wA.heap.size wA wr := hE6.to (hEz.1.mono hE6.2)
              go_wp2_with fail
              go_roundw
              case rel => exact ⟨j + 1, by omega, by go_num, HE⟩
              case measure => simp [intOf]; omega
    · obtain rfl : j = 15 := by omega
      have HE : Ext A w wr := hEA.to (hE.1.mono hEA.2)
      go_wp2_with fail
      refine (law19_read none 0 0 [] _ (Bs.nil _) (by unfold big; decide)).mono ?_
      rintro e w1 ⟨rfl, hb1⟩
      have hE1 := HE.step hb1
      have mk1 : ∀ W, (Instr.makeSlice 26 (.int .i64 128) (.int .i64 128)).run Try.prog W = .ok (.slice (some ⟨W.heap.size, 0, none⟩) 128 128) (W.alloc (.cells (madeCells #[.int .u8 0] 128) TB)) := fun W => run_make_bytes 128 (by decide) W
      have mk2 : ∀ W, (Instr.makeSlice 26 (.int .i64 127) (.int .i64 127)).run Try.prog W = .ok (.slice (some ⟨W.heap.size, 0, none⟩) 127 127) (W.alloc (.cells (madeCells #[.int .u8 0] 127) TB)) := fun W => run_make_bytes 127 (by decide) W
      have hZ1 := (Row.zero w1 128 (by unfold maxLen; omega)).bs
      rw [List.length_replicate] at hZ1
      have hE2 := hE1.alloc (.cells (madeCells #[.int .u8 0] 128) TB)
      go_wp2_with fail
      refine (law19_read _ 128 _ _ _ hZ1 (by unfold big; decide)).mono ?_
      rintro e w3 ⟨rfl, hb3⟩
      have hE3 := hE2.step hb3
      clear hZ1 mk1 hE2 hE1 hb1 hb3 HE hE
      have hZ2 := (Row.zero w3 127 (by unfold maxLen; omega)).bs
      rw [List.length_replicate] at hZ2
      have hE4 := hE3.alloc (.cells (madeCells #[.int .u8 0] 127) TB)
      go_wp2_with fail
      refine (law19_read _ 127 _ _ _ hZ2 (by unfold big; decide)).mono ?_
      rintro e w5 ⟨rfl, hb5⟩
      have hE5 := hE4.step hb5
      clear hZ2 mk2 hE3 hE4 hb5
      go_wp2_with fail
      refine (layout_known _).mono ?_
      rintro e w6 ⟨rfl, hb6⟩
      have hE6 := hE5.step hb6
      go_wp2_with fail
      go_ret
      rw [← HA.out]
      exact ⟨rfl, hE6.1⟩
end Go.Proofs.Ytmedamofmlkccaa
