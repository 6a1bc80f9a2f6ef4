/- The walk of RecordNumbers. -/
import Derived.Test.YtmjlndfkddacbaaLaw16
import Derived.Test.YtmjlndfkddacbaaTools
import Derived.Deep.DeepCutAuto
namespace Go.Proofs.Ytmjlndfkddacbaa
open Go.RowKit

theorem rBytes_len (k : Int) (q : Nat) (ys : List UInt8) (h : ys.length ≤ 65535) : (rBytes k q ys).length = 15 + ys.length := by
  simp [rBytes, rHead, be_length, lenBytes]; omega
theorem lits5 (w : World) (f : Int → Value) (a b c d e : Int) (t : TypeId) (i : Nat) (hi : i < 5) : ∃ n, (w.alloc (.cells #[f a, f b, f c, f d, f e] t)).cell? ⟨w.heap.size, i, none⟩ = some (f n) ∧ (n = a ∨ n = b ∨ n = c ∨ n = d ∨ n = e) := by
  rw [cell_new]
  match i, hi with
  | 0, _ => exact ⟨a, rfl, by simp⟩
  | 1, _ => exact ⟨b, rfl, by simp⟩
  | 2, _ => exact ⟨c, rfl, by simp⟩
  | 3, _ => exact ⟨d, rfl, by simp⟩
  | 4, _ => exact ⟨e, rfl, by simp⟩

set_option maxHeartbeats 4000000 in
set_option maxRecDepth 100000 in
theorem RecordNumbers_walk (w : World) :
    Calls Try.prog 3 #[] w fun e w' => e = .returned (.bool true) ∧ Below w.heap.size w w' := by
  go_enter Try.func3, Try.ntmps3
  go_wp2_with fail
  go_loopw [1] (fun i wr => ∃ k : Int, -1 ≤ k ∧ k ≤ 5 ∧ i = .int .i64 k ∧ Ext w.heap.size w wr) (fun i _ => (5 - intOf i).toNat)
  case atStart => exact ⟨-1, by omega, by omega, rfl, Ext.refl w⟩
  case round =>
    obtain ⟨k, hk1, hk2, rfl, hE⟩ := hrel
    by_cases hlt : k < 5
    · have hL := lits5 wr (fun n => .int .i64 n) 0 1 899 900 901 3
      have hsA := size_alloc wr (.cells #[.int .i64 0, .int .i64 1, .int .i64 899, .int .i64 900, .int .i64 901] 3)
      have hEA := hE.alloc (.cells #[.int .i64 0, .int .i64 1, .int .i64 899, .int .i64 900, .int .i64 901] 3)
      obtain ⟨A, hA⟩ : ∃ A, A = wr.heap.size := ⟨_, rfl⟩
      rw [← hA] at hL hsA
      have HA := Lib.hid hA
      have HL := Lib.hid hL
      clear hL hA hE
      go_wp2_with fail
      rw [← HA.out]
      generalize wr.alloc (.cells #[.int .i64 0, .int .i64 1, .int .i64 899, .int .i64 900, .int .i64 901] 3) = wA at *
      go_loopw [14] (fun i wx => ∃ j : Nat, j ≤ 5 ∧ i = .int .i64 j ∧ Ext wA.heap.size wA wx) (fun i _ => 5 - (intOf i).toNat)
      case atStart => exact ⟨0, by omega, rfl, Ext.refl _⟩
      case round =>
        obtain ⟨j, hj, rfl, hEx⟩ := hrel
        by_cases hlj : j < 5
        · obtain ⟨nn, hcn, hnn⟩ := HL.out j hlj
          obtain ⟨n, rfl⟩ : ∃ n : Nat, nn = (n : Int) := ⟨nn.toNat, by omega⟩
          have hn9 : n ≤ 901 := by omega
          have hcn' := hEx.cel hsA hcn
          have hj0 : (0 : Int) ≤ (j : Int) := by omega
          have hj5 : (j : Int) < 5 := by omega
          have hM := lits5 wr (fun n => .int .u64 n) 0 1 1099511627776 1099511627777 18446744073709551615 23
          have hsB := size_alloc wr (.cells #[.int .u64 0, .int .u64 1, .int .u64 1099511627776, .int .u64 1099511627777, .int .u64 18446744073709551615] 23)
          have hEB := hEx.alloc (.cells #[.int .u64 0, .int .u64 1, .int .u64 1099511627776, .int .u64 1099511627777, .int .u64 18446744073709551615] 23)
          obtain ⟨M, hMe⟩ : ∃ M, M = wr.heap.size := ⟨_, rfl⟩
          rw [← hMe] at hM hsB
          have HME := Lib.hid hMe
          have HM := Lib.hid hM
          clear hM hMe hnn hcn hEx
          go_wp2_with fail
          rw [← HME.out]
          generalize wr.alloc (.cells #[.int .u64 0, .int .u64 1, .int .u64 1099511627776, .int .u64 1099511627777, .int .u64 18446744073709551615] 23) = wB at *
          go_loopw [20] (fun i wy => ∃ p : Nat, p ≤ 5 ∧ i = .int .i64 p ∧ Ext wB.heap.size wB wy) (fun i _ => 5 - (intOf i).toNat)
          case atStart => exact ⟨0, by omega, rfl, Ext.refl _⟩
          case round =>
            obtain ⟨p, hp, rfl, hEy⟩ := hrel
            by_cases hlp : p < 5
            · obtain ⟨qq, hcq, hqq⟩ := HM.out p hlp
              obtain ⟨q, rfl⟩ : ∃ q : Nat, qq = (q : Int) := ⟨qq.toNat, by omega⟩
              have hcq' := hEy.cel hsB hcq
              have hp0 : (0 : Int) ≤ (p : Int) := by omega
              have hp5 : (p : Int) < 5 := by omega
              clear hqq hcq hcn'
              have hmk : ∀ W, (Instr.makeSlice 25 (.int .i64 (n : Int)) (.int .i64 (n : Int))).run Try.prog W = .ok (.slice (some ⟨W.heap.size, 0, none⟩) n n) (W.alloc (.cells (madeCells #[.int .u8 0] n) TB)) := fun W => run_make_bytes n (by omega) W
              have hZ := (Row.zero wr n (by unfold maxLen; omega)).bs
              rw [List.length_replicate] at hZ
              have hE1 := hEy.alloc (.cells (madeCells #[.int .u8 0] n) TB)
              have hs1 := hE1.2
              have d0 := cell_new (wr.alloc (.cells (madeCells #[.int .u8 0] n) TB)) #[.int .i64 k, .int .u64 (q : Int), .slice (some ⟨wr.heap.size, 0, none⟩) n n] 27 0
              have d1 := cell_new (wr.alloc (.cells (madeCells #[.int .u8 0] n) TB)) #[.int .i64 k, .int .u64 (q : Int), .slice (some ⟨wr.heap.size, 0, none⟩) n n] 27 1
              have d2 := cell_new (wr.alloc (.cells (madeCells #[.int .u8 0] n) TB)) #[.int .i64 k, .int .u64 (q : Int), .slice (some ⟨wr.heap.size, 0, none⟩) n n] 27 2
              simp only [List.getElem?_toArray, List.getElem?_cons_zero, List.getElem?_cons_succ] at d0 d1 d2
              have hs2 := size_alloc (wr.alloc (.cells (madeCells #[.int .u8 0] n) TB)) (.cells #[.int .i64 k, .int .u64 (q : Int), .slice (some ⟨wr.heap.size, 0, none⟩) n n] 27)
              have hE2 := hE1.alloc (.cells #[.int .i64 k, .int .u64 (q : Int), .slice (some ⟨wr.heap.size, 0, none⟩) n n] 27)
              have hZ2 := hZ.alloc (.cells #[.int .i64 k, .int .u64 (q : Int), .slice (some ⟨wr.heap.size, 0, none⟩) n n] 27)
              obtain ⟨G, hG⟩ : ∃ G, G = wr.heap.size := ⟨_, rfl⟩
              have hz1 : (wr.alloc (.cells (madeCells #[.int .u8 0] n) TB)).heap.size = wr.heap.size + 1 := by simp
              rw [hz1] at d0 d1 d2 hs2
              obtain ⟨Z, hZe⟩ : ∃ Z, Z = wr.heap.size + 1 := ⟨_, rfl⟩
              rw [← hZe] at d0 d1 d2 hs2
              have HZE := Lib.hid hZe
              rw [← hG] at d0 d1 d2 hZ2 hE2 hs2
              have HG := Lib.hid hG
              clear hE1 hs1 hG hZe hZ hz1
              go_upto_region 11 with fail
              rw [← HZE.out, ← HG.out]
              generalize (wr.alloc (.cells (madeCells #[.int .u8 0] n) TB)).alloc (.cells #[.int .i64 k, .int .u64 (q : Int), .slice (some ⟨G, 0, none⟩) n n] 27) = w2 at *
              clear hEy hmk
              go_wp2_with fail
              refine (in_any k q _ n n _).mono ?_
              rintro e w3 ⟨rfl, hb3⟩
              have hE3 := hE2.step hb3
              have hZ3 := hZ2.below hb3
              have d0 := (hb3.cell (p := ⟨Z, 0, none⟩) hs2).trans d0
              have d1 := (hb3.cell (p := ⟨Z, 1, none⟩) hs2).trans d1
              have d2 := (hb3.cell (p := ⟨Z, 2, none⟩) hs2).trans d2
              have hs3 := Nat.lt_of_lt_of_le hs2 hb3.size
              clear hE2 hZ2 hb3 hs2
              have HEN := Lib.hid (renc_any k q _ n n _ w3 hZ3 (by omega))
              have hLn := rBytes_len k q (List.replicate n 0) (by rw [List.length_replicate]; omega)
              rw [List.length_replicate] at hLn
              obtain ⟨N, hN⟩ : ∃ N, N = 15 + n := ⟨_, rfl⟩
              rw [← hN] at hLn
              have HN := Lib.hid hN
              have hNle : N ≤ 20000 := by omega
              clear hN
              generalize rBytes k q (List.replicate n 0) = L at *
              go_wp2_with fail
              refine HEN.out.mono ?_
              rintro e w4 ⟨v4, rfl, ho4, hb4⟩
              obtain ⟨a4, c4, rfl, hL4⟩ := ho4.bsn hLn
              have hE4 := hE3.step hb4
              have hZ4 := hZ3.below hb4
              have d0 := (hb4.cell (p := ⟨Z, 0, none⟩) hs3).trans d0
              have d1 := (hb4.cell (p := ⟨Z, 1, none⟩) hs3).trans d1
              have d2 := (hb4.cell (p := ⟨Z, 2, none⟩) hs3).trans d2
              clear hE3 hZ3 hb4 hs3 HEN ho4
              go_wp2_with fail
              refine (same_any k q _ n n _ _ hZ4).mono ?_
              rintro e w5 ⟨rfl, hb5⟩
              have hE5 := hE4.step hb5
              have hL5 := hL4.below hb5
              clear hE4 hL4 hZ4 hb5 d0 d1 d2
              go_wp2_with fail
              refine (read_any a4 N c4 L _ hL5 (by unfold big; omega)).mono ?_
              rintro e w6 ⟨rfl, hb6⟩
              have hE6 := hE5.step hb6
              have hL6 := hL5.below hb6
              clear hE5 hL5 hb6
              have hN := HN.out
              obtain ⟨N1, hN1⟩ : ∃ N1, N1 = N - 1 := ⟨_, rfl⟩
              obtain ⟨n2, hn2⟩ : ∃ n2, n2 = n / 2 := ⟨_, rfl⟩
              have hc4 := hL6.2.1
              have hT1 := hL6.take (k := N1) (by omega)
              have hT2 := hL6.take (k := n2) (by omega)
              have e1 : IntKind.i64.wrap ((N : Int) - 1) = (N1 : Int) := by rw [IntWalk.i64_in _ (by omega)]; omega
              have e2 : (0 : Int) ≤ (N1 : Int) := by omega
              have e3 : (N1 : Int) ≤ (c4 : Int) := by omega
              have e4 : (n : Int).tdiv 2 = (n2 : Int) := by rw [hn2]; rfl
              have e5 : (0 : Int) ≤ (n2 : Int) := by omega
              have e6 : (n2 : Int) ≤ (c4 : Int) := by omega
              have hl1 : N1 ≤ 20000 := by omega
              have hl2 : n2 ≤ 20000 := by omega
              have hl3 : N ≤ 20000 := by omega
              clear hN1 hn2 hN hc4
              go_wp2_with fail
              refine (read_any a4 N1 c4 _ _ hT1 (by unfold big; omega)).mono ?_
              rintro e w7 ⟨rfl, hb7⟩
              have hE7 := hE6.step hb7
              have hL7 := hL6.below hb7
              have hT7 := hT2.below hb7
              clear hE6 hL6 hb7 hT1 hT2
              go_wp2_with fail
              refine (read_any a4 n2 c4 _ _ hT7 (by unfold big; omega)).mono ?_
              rintro e w8 ⟨rfl, hb8⟩
              have hE8 := hE7.step hb8
              have hL8 := hL7.below hb8
              clear hE7 hL7 hb8 hT7
              have hO := Own.empty w8
              have hL8a := hL8.alloc (.cells #[] TB)
              go_wp2_with (at_builtin; refine wpList_append_w ?h1 _ _ rfl (w8.heap.size) _ [] rfl hO a4 N c4 L rfl hL8a ?h3 (by simp) ?hk)
              case h3 => simp; omega
              intro v9 w9 ho9 hg9 _
              have hb9 : Below w8.heap.size w8 w9 := (((Ext.refl w8).alloc (.cells #[] TB)).grown hg9 hO.blk).1
              have hB9 := Bs.newRow w9 #[.int .u8 9] TB (0, 0) 1 1 [9] rfl (Nat.le_refl _) (by simp [maxLen]) rfl
              clear hO hL8a hg9
              go_wp2_with (at_builtin; refine wpList_append_w ?g1 _ _ rfl (w8.heap.size) v9 L rfl (ho9.alloc _) (some ⟨w9.heap.size, 0, none⟩) 1 1 [9] rfl hB9 ?g3 ?g4 ?gk)
              case g3 => rw [hLn]; omega
              case g4 => have := hb9.size; simp; omega
              intro v10 w10 ho10 hg10 _
              have hb10 : Below w8.heap.size w8 w10 := (Below.grown (Below.alloc hb9 hb9.size (.cells #[.int .u8 9] TB)) hg10 (by have := hb9.size; simp; omega) ho9.blk)
              have hE10 := hE8.step hb10
              obtain ⟨a10, c10, rfl, hB10⟩ := ho10.bsn (n := N + 1) (by rw [List.length_append, hLn]; rfl)
              clear hE8 hL8 ho9 hB9 hb9 hb10 hg10 ho10
              go_wp2_with fail
              refine (read_any a10 (N + 1) c10 _ _ hB10 (by unfold big; omega)).mono ?_
              rintro e w11 ⟨rfl, hb11⟩
              have hE11 := hE10.step hb11
              clear hE10 hB10 hb11
              go_wp2_with fail
              go_roundw
              case rel => exact ⟨p + 1, by omega, by go_num, hE11⟩
              case measure => simp [intOf]; omega
            · obtain rfl : p = 5 := by omega
              have hEy2 := hEB.to (hEy.1.mono hEB.2)
              clear hEy
              go_wp2_with fail
              go_roundw
              case rel => exact ⟨j + 1, by omega, by go_num, hEy2⟩
              case measure => simp [intOf]; omega
        · obtain rfl : j = 5 := by omega
          have hEx2 := hEA.to (hEx.1.mono hEA.2)
          clear hEx
          go_wp2_with fail
          go_roundw
          case rel => exact ⟨k + 1, by omega, by omega, by go_num, hEx2⟩
          case measure => simp [intOf]; omega
    · clear hk1 hk2
      go_wp2_with fail
      refine (read_any none 0 0 [] _ (Bs.nil _) (Nat.zero_le _)).mono ?_
      rintro e w1 ⟨rfl, hb1⟩
      have hE1 := hE.step hb1
      have hB1 := Bs.newRow w1 #[.int .u8 0] TB (0, 0) 1 1 [0] rfl (Nat.le_refl _) (by simp [maxLen]) rfl
      have hE1a := hE1.alloc (.cells #[.int .u8 0] TB)
      clear hE hb1
      go_wp2_with fail
      refine (read_any _ 1 1 [0] _ hB1 (by unfold big; decide)).mono ?_
      rintro e w2 ⟨rfl, hb2⟩
      have hE2 := hE1a.step hb2
      have hB2 := Bs.newRow w2 #[.int .u8 1] TB (0, 0) 1 1 [1] rfl (Nat.le_refl _) (by simp [maxLen]) rfl
      have hE2a := hE2.alloc (.cells #[.int .u8 1] TB)
      clear hB1 hE1 hE1a hb2
      go_wp2_with fail
      refine (read_any _ 1 1 [1] _ hB2 (by unfold big; decide)).mono ?_
      rintro e w3 ⟨rfl, hb3⟩
      have hE3 := hE2a.step hb3
      clear hB2 hE2 hE2a hb3
      go_wp2_with fail
      refine (rec_known _).mono ?_
      rintro e w4 ⟨rfl, hb4⟩
      go_wp2_with fail
      go_ret
      exact ⟨rfl, (hE3.step hb4).1⟩
end Go.Proofs.Ytmjlndfkddacbaa
