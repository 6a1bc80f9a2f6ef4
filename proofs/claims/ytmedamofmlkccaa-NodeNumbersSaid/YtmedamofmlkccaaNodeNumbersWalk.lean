/- The walk of NodeNumbers. -/
import Derived.Test.YtmedamofmlkccaaLaw10
import Derived.Test.YtmedamofmlkccaaTools2
import Derived.Deep.DeepCutAuto
namespace Go.Proofs.Ytmedamofmlkccaa
open Go.RowKit

theorem lits7 (w : World) (i : Nat) (hi : i < 7) : ∃ n : Int, (w.alloc (.cells #[.int .i64 (-1), .int .i64 0, .int .i64 1, .int .i64 4096, .int .i64 4097, .int .i64 65535, .int .i64 65536] 3)).cell? ⟨w.heap.size, i, none⟩ = some (.int .i64 n) ∧ -1 ≤ n ∧ n ≤ 65536 := by
  rw [cell_new]
  match i, hi with
  | 0, _ => exact ⟨-1, rfl, by omega, by omega⟩
  | 1, _ => exact ⟨0, rfl, by omega, by omega⟩
  | 2, _ => exact ⟨1, rfl, by omega, by omega⟩
  | 3, _ => exact ⟨4096, rfl, by omega, by omega⟩
  | 4, _ => exact ⟨4097, rfl, by omega, by omega⟩
  | 5, _ => exact ⟨65535, rfl, by omega, by omega⟩
  | 6, _ => exact ⟨65536, rfl, by omega, by omega⟩

set_option maxHeartbeats 8000000 in
set_option maxRecDepth 100000 in
theorem NodeNumbers_walk (w : World) :
    Calls Try.prog 8 #[] w fun e w' => e = .returned (.bool true) ∧ Below w.heap.size w w' := by
  go_enter Try.func8, Try.ntmps8
  go_wp2_with fail
  go_loopw [1] (fun i wr => ∃ k : Int, 0 ≤ k ∧ k ≤ 4 ∧ i = .int .i64 k ∧ Ext w.heap.size w wr) (fun i _ => (4 - intOf i).toNat)
  case atStart => exact ⟨0, by omega, by omega, rfl, Ext.refl w⟩
  case round =>
    obtain ⟨k, hk1, hk2, rfl, hE⟩ := hrel
    by_cases hlt : k < 4
    · go_wp2_with fail
      go_loopw [2] (fun i wx => ∃ j : Int, 0 ≤ j ∧ j ≤ 6 ∧ i = .int .i64 j ∧ Ext w.heap.size w wx) (fun i _ => (6 - intOf i).toNat)
      case atStart => exact ⟨0, by omega, by omega, rfl, hE⟩
      case round =>
        obtain ⟨j, hj0, hj, rfl, hEx⟩ := hrel
        clear hE
        by_cases hlj : j < 6
        · have hM := lits7 wr
          have hsB := size_alloc wr (.cells #[.int .i64 (-1), .int .i64 0, .int .i64 1, .int .i64 4096, .int .i64 4097, .int .i64 65535, .int .i64 65536] 3)
          have hEB := hEx.alloc (.cells #[.int .i64 (-1), .int .i64 0, .int .i64 1, .int .i64 4096, .int .i64 4097, .int .i64 65535, .int .i64 65536] 3)
          obtain ⟨M, hMe⟩ : ∃ M, M = wr.heap.size := ⟨_, rfl⟩
          rw [← hMe] at hM hsB
          have HME := Lib.hid hMe
          have HM := Lib.hid hM
          clear hM hMe hEx
          go_wp2_with fail
          rw [← HME.out]
          generalize wr.alloc (.cells #[.int .i64 (-1), .int .i64 0, .int .i64 1, .int .i64 4096, .int .i64 4097, .int .i64 65535, .int .i64 65536] 3) = wB at *
          go_loopw [17] (fun i wy => ∃ p : Nat, p ≤ 7 ∧ i = .int .i64 p ∧ Ext wB.heap.size wB wy) (fun i _ => 7 - (intOf i).toNat)
          case atStart => exact ⟨0, by omega, rfl, Ext.refl _⟩
          case round =>
            obtain ⟨p, hp, rfl, hEy⟩ := hrel
            by_cases hlp : p < 7
            · obtain ⟨n, hcn, hn1, hn2⟩ := HM.out p hlp
              have hcn' := hEy.cel hsB hcn
              have hp0 : (0 : Int) ≤ (p : Int) := by omega
              have hp7 : (p : Int) < 7 := by omega
              clear hcn
              have hZ1 := heap_alloc_new wr (.cells #[.int .i64 5, .int .i64 k, .int .i64 1, .int .i64 0, .int .u64 0, .bool true] 59)
              have hE1 := hEy.alloc (.cells #[.int .i64 5, .int .i64 k, .int .i64 1, .int .i64 0, .int .u64 0, .bool true] 59)
              have hs1 := size_alloc wr (.cells #[.int .i64 5, .int .i64 k, .int .i64 1, .int .i64 0, .int .u64 0, .bool true] 59)
              obtain ⟨Z, hZ⟩ : ∃ Z, Z = wr.heap.size := ⟨_, rfl⟩
              have hBZ : wB.heap.size ≤ Z := by rw [hZ]; exact hEy.2
              rw [← hZ] at hZ1 hs1
              have HZ := Lib.hid hZ
              have HZ1 := Lib.hid hZ1
              clear hZ hZ1
              go_upto_region 11 with fail
              rw [← HZ.out]
              generalize wr.alloc (.cells #[.int .i64 5, .int .i64 k, .int .i64 1, .int .i64 0, .int .u64 0, .bool true] 59) = w1 at *
              obtain ⟨⟨d0, d1, d2, d3, d4, d5⟩, g0, g1, g2, g3, g4, g5⟩ := six_cells HZ1.out
              have hjc : j = 0 ∨ j = 1 ∨ j = 2 ∨ j = 3 ∨ j = 4 ∨ j = 5 := by omega
              clear hEy
              rcases hjc with rfl | rfl | rfl | rfl | rfl | rfl
              · have hZ2 := cells_set (k := 0) (y := .int .i64 n) HZ1.out
                have hE2 := hE1.setCell (p := ⟨Z, 0, none⟩) hBZ (.int .i64 n)
                have hs2 : Z < (w1.setCell ⟨Z, 0, none⟩ (.int .i64 n)).heap.size := by simpa [World.setCell] using hs1
                have HZ2 : Hid ((w1.setCell ⟨Z, 0, none⟩ (.int .i64 n)).heap[Z]? = some (.cells #[.int .i64 n, .int .i64 k, .int .i64 1, .int .i64 0, .int .u64 ((0 : Nat) : Int), .bool true] 59 (0, 0))) := Lib.hid hZ2
                clear hZ2 hE1 hs1
                go_upto_region 22 with fail
                generalize w1.setCell ⟨Z, 0, none⟩ (.int .i64 n) = w2 at *
                clear d0 d1 d2 d3 d4 d5 g0 g1 g2 g3 g4 g5
                obtain ⟨⟨d0, d1, d2, d3, d4, d5⟩, g0, g1, g2, g3, g4, g5⟩ := six_cells HZ2.out
                have HEN := Lib.hid (fun w => rnenc_any ⟨n, k, 1, 0, 0, true⟩ w)
                have HSX2 := Lib.hid (fun w => law10_same ⟨n, k, 1, 0, 0, true⟩ w)
                have hL := Nd.rbytes_len ⟨n, k, 1, 0, 0, true⟩
                unfold Nd.cells at HEN HSX2
                simp only at HEN HSX2
                generalize Nd.rbytes ⟨n, k, 1, 0, 0, true⟩ = L at *
                go_wp2_with fail
                refine (HEN.out _).mono ?_
                rintro e w11 ⟨v11, rfl, ho11, hb11⟩
                have hZ11 := (hb11.block Z hs2).trans HZ2.out
                have hE11 := hE2.step hb11
                obtain ⟨a11, c11, rfl, hL11⟩ := ho11.bsn hL
                clear ho11 HEN hb11 hE2 hs2 d0 d1 d2 d3 d4 d5 g0 g1 g2 g3 g4 g5
                obtain ⟨⟨d0, d1, d2, d3, d4, d5⟩, g0, g1, g2, g3, g4, g5⟩ := six_cells hZ11
                clear hZ11
                go_wp2_with fail
                refine (HSX2.out _).mono ?_
                rintro e w12 ⟨rfl, hb12⟩
                have hE12 := hE11.step hb12
                have hL12 := hL11.below hb12
                clear d0 d1 d2 d3 d4 d5 g0 g1 g2 g3 g4 g5 hE11 hL11 hb12
                go_wp2_with fail
                refine (law10_read a11 16 c11 L _ hL12 (by unfold big; omega)).mono ?_
                rintro e w13 ⟨rfl, hb13⟩
                have hE13 := hE12.step hb13
                have hL13 := hL12.below hb13
                clear hE12 hL12 hb13
                have hc16 := hL13.2.1
                have hT15 := hL13.take (k := 15) (by omega)
                have q1 : (15 : Int) ≤ (c11 : Int) := by omega
                clear hc16
                go_wp2_with fail
                refine (law10_read a11 15 c11 _ _ hT15 (by unfold big; omega)).mono ?_
                rintro e w14 ⟨rfl, hb14⟩
                have hE14 := hE13.step hb14
                have hL14 := hL13.below hb14
                clear hE13 hL13 hb14 hT15
                have hO := Own.empty w14
                have hL14a := hL14.alloc (.cells #[] TB)
                go_wp2_with (at_builtin; refine wpList_append_w ?x11 _ _ rfl (w14.heap.size) _ [] rfl hO a11 16 c11 L rfl hL14a ?x13 (by simp) ?x1k)
                case x13 => simp
                intro v15 w15 ho15 hg15 _
                have hb15 : Below w14.heap.size w14 w15 := (((Ext.refl w14).alloc (.cells #[] TB)).grown hg15 hO.blk).1
                have hB15 := Bs.newRow w15 #[.int .u8 0] TB (0, 0) 1 1 [0] rfl (Nat.le_refl _) (by simp [maxLen]) rfl
                clear hO hL14a hg15
                go_wp2_with (at_builtin; refine wpList_append_w ?y11 _ _ rfl (w14.heap.size) v15 L rfl (ho15.alloc _) (some ⟨w15.heap.size, 0, none⟩) 1 1 [0] rfl hB15 ?y13 ?y14 ?y1k)
                case y13 => rw [hL]; omega
                case y14 => have := hb15.size; simp; omega
                intro v16 w16 ho16 hg16 _
                have hb16 : Below w14.heap.size w14 w16 := (Below.grown (Below.alloc hb15 hb15.size (.cells #[.int .u8 0] TB)) hg16 (by have := hb15.size; simp; omega) ho15.blk)
                have hE16 := hE14.step hb16
                obtain ⟨a16, c16, rfl, hB16⟩ := ho16.bsn (n := 17) (by rw [List.length_append, hL]; rfl)
                clear hE14 hL14 ho15 hB15 hb15 hb16 hg16 ho16
                go_wp2_with fail
                refine (law10_read a16 17 c16 _ _ hB16 (by unfold big; omega)).mono ?_
                rintro e w17 ⟨rfl, hb17⟩
                have hE17 := hE16.step hb17
                clear hE16 hB16 hb17
                go_wp2_with fail
                go_roundw
                case rel => exact ⟨p + 1, by omega, by go_num, hE17⟩
                case measure => simp [intOf]; omega
              · have hZ2 := cells_set (k := 2) (y := .int .i64 n) HZ1.out
                have hE2 := hE1.setCell (p := ⟨Z, 2, none⟩) hBZ (.int .i64 n)
                have hs2 : Z < (w1.setCell ⟨Z, 2, none⟩ (.int .i64 n)).heap.size := by simpa [World.setCell] using hs1
                have HZ2 : Hid ((w1.setCell ⟨Z, 2, none⟩ (.int .i64 n)).heap[Z]? = some (.cells #[.int .i64 5, .int .i64 k, .int .i64 n, .int .i64 0, .int .u64 ((0 : Nat) : Int), .bool true] 59 (0, 0))) := Lib.hid hZ2
                clear hZ2 hE1 hs1
                go_upto_region 22 with fail
                generalize w1.setCell ⟨Z, 2, none⟩ (.int .i64 n) = w2 at *
                clear d0 d1 d2 d3 d4 d5 g0 g1 g2 g3 g4 g5
                obtain ⟨⟨d0, d1, d2, d3, d4, d5⟩, g0, g1, g2, g3, g4, g5⟩ := six_cells HZ2.out
                have HEN := Lib.hid (fun w => rnenc_any ⟨5, k, n, 0, 0, true⟩ w)
                have HSX2 := Lib.hid (fun w => law10_same ⟨5, k, n, 0, 0, true⟩ w)
                have hL := Nd.rbytes_len ⟨5, k, n, 0, 0, true⟩
                unfold Nd.cells at HEN HSX2
                simp only at HEN HSX2
                generalize Nd.rbytes ⟨5, k, n, 0, 0, true⟩ = L at *
                go_wp2_with fail
                refine (HEN.out _).mono ?_
                rintro e w11 ⟨v11, rfl, ho11, hb11⟩
                have hZ11 := (hb11.block Z hs2).trans HZ2.out
                have hE11 := hE2.step hb11
                obtain ⟨a11, c11, rfl, hL11⟩ := ho11.bsn hL
                clear ho11 HEN hb11 hE2 hs2 d0 d1 d2 d3 d4 d5 g0 g1 g2 g3 g4 g5
                obtain ⟨⟨d0, d1, d2, d3, d4, d5⟩, g0, g1, g2, g3, g4, g5⟩ := six_cells hZ11
                clear hZ11
                go_wp2_with fail
                refine (HSX2.out _).mono ?_
                rintro e w12 ⟨rfl, hb12⟩
                have hE12 := hE11.step hb12
                have hL12 := hL11.below hb12
                clear d0 d1 d2 d3 d4 d5 g0 g1 g2 g3 g4 g5 hE11 hL11 hb12
                go_wp2_with fail
                refine (law10_read a11 16 c11 L _ hL12 (by unfold big; omega)).mono ?_
                rintro e w13 ⟨rfl, hb13⟩
                have hE13 := hE12.step hb13
                have hL13 := hL12.below hb13
                clear hE12 hL12 hb13
                have hc16 := hL13.2.1
                have hT15 := hL13.take (k := 15) (by omega)
                have q1 : (15 : Int) ≤ (c11 : Int) := by omega
                clear hc16
                go_wp2_with fail
                refine (law10_read a11 15 c11 _ _ hT15 (by unfold big; omega)).mono ?_
                rintro e w14 ⟨rfl, hb14⟩
                have hE14 := hE13.step hb14
                have hL14 := hL13.below hb14
                clear hE13 hL13 hb14 hT15
                have hO := Own.empty w14
                have hL14a := hL14.alloc (.cells #[] TB)
                go_wp2_with (at_builtin; refine wpList_append_w ?x21 _ _ rfl (w14.heap.size) _ [] rfl hO a11 16 c11 L rfl hL14a ?x23 (by simp) ?x2k)
                case x23 => simp
                intro v15 w15 ho15 hg15 _
                have hb15 : Below w14.heap.size w14 w15 := (((Ext.refl w14).alloc (.cells #[] TB)).grown hg15 hO.blk).1
                have hB15 := Bs.newRow w15 #[.int .u8 0] TB (0, 0) 1 1 [0] rfl (Nat.le_refl _) (by simp [maxLen]) rfl
                clear hO hL14a hg15
                go_wp2_with (at_builtin; refine wpList_append_w ?y21 _ _ rfl (w14.heap.size) v15 L rfl (ho15.alloc _) (some ⟨w15.heap.size, 0, none⟩) 1 1 [0] rfl hB15 ?y23 ?y24 ?y2k)
                case y23 => rw [hL]; omega
                case y24 => have := hb15.size; simp; omega
                intro v16 w16 ho16 hg16 _
                have hb16 : Below w14.heap.size w14 w16 := (Below.grown (Below.alloc hb15 hb15.size (.cells #[.int .u8 0] TB)) hg16 (by have := hb15.size; simp; omega) ho15.blk)
                have hE16 := hE14.step hb16
                obtain ⟨a16, c16, rfl, hB16⟩ := ho16.bsn (n := 17) (by rw [List.length_append, hL]; rfl)
                clear hE14 hL14 ho15 hB15 hb15 hb16 hg16 ho16
                go_wp2_with fail
                refine (law10_read a16 17 c16 _ _ hB16 (by unfold big; omega)).mono ?_
                rintro e w17 ⟨rfl, hb17⟩
                have hE17 := hE16.step hb17
                clear hE16 hB16 hb17
                go_wp2_with fail
                go_roundw
                case rel => exact ⟨p + 1, by omega, by go_num, hE17⟩
                case measure => simp [intOf]; omega
              · have hZ2 := cells_set (k := 3) (y := .int .i64 n) HZ1.out
                have hE2 := hE1.setCell (p := ⟨Z, 3, none⟩) hBZ (.int .i64 n)
                have hs2 : Z < (w1.setCell ⟨Z, 3, none⟩ (.int .i64 n)).heap.size := by simpa [World.setCell] using hs1
                have HZ2 : Hid ((w1.setCell ⟨Z, 3, none⟩ (.int .i64 n)).heap[Z]? = some (.cells #[.int .i64 5, .int .i64 k, .int .i64 1, .int .i64 n, .int .u64 ((0 : Nat) : Int), .bool true] 59 (0, 0))) := Lib.hid hZ2
                clear hZ2 hE1 hs1
                go_upto_region 22 with fail
                generalize w1.setCell ⟨Z, 3, none⟩ (.int .i64 n) = w2 at *
                clear d0 d1 d2 d3 d4 d5 g0 g1 g2 g3 g4 g5
                obtain ⟨⟨d0, d1, d2, d3, d4, d5⟩, g0, g1, g2, g3, g4, g5⟩ := six_cells HZ2.out
                have HEN := Lib.hid (fun w => rnenc_any ⟨5, k, 1, n, 0, true⟩ w)
                have HSX2 := Lib.hid (fun w => law10_same ⟨5, k, 1, n, 0, true⟩ w)
                have hL := Nd.rbytes_len ⟨5, k, 1, n, 0, true⟩
                unfold Nd.cells at HEN HSX2
                simp only at HEN HSX2
                generalize Nd.rbytes ⟨5, k, 1, n, 0, true⟩ = L at *
                go_wp2_with fail
                refine (HEN.out _).mono ?_
                rintro e w11 ⟨v11, rfl, ho11, hb11⟩
                have hZ11 := (hb11.block Z hs2).trans HZ2.out
                have hE11 := hE2.step hb11
                obtain ⟨a11, c11, rfl, hL11⟩ := ho11.bsn hL
                clear ho11 HEN hb11 hE2 hs2 d0 d1 d2 d3 d4 d5 g0 g1 g2 g3 g4 g5
                obtain ⟨⟨d0, d1, d2, d3, d4, d5⟩, g0, g1, g2, g3, g4, g5⟩ := six_cells hZ11
                clear hZ11
                go_wp2_with fail
                refine (HSX2.out _).mono ?_
                rintro e w12 ⟨rfl, hb12⟩
                have hE12 := hE11.step hb12
                have hL12 := hL11.below hb12
                clear d0 d1 d2 d3 d4 d5 g0 g1 g2 g3 g4 g5 hE11 hL11 hb12
                go_wp2_with fail
                refine (law10_read a11 16 c11 L _ hL12 (by unfold big; omega)).mono ?_
                rintro e w13 ⟨rfl, hb13⟩
                have hE13 := hE12.step hb13
                have hL13 := hL12.below hb13
                clear hE12 hL12 hb13
                have hc16 := hL13.2.1
                have hT15 := hL13.take (k := 15) (by omega)
                have q1 : (15 : Int) ≤ (c11 : Int) := by omega
                clear hc16
                go_wp2_with fail
                refine (law10_read a11 15 c11 _ _ hT15 (by unfold big; omega)).mono ?_
                rintro e w14 ⟨rfl, hb14⟩
                have hE14 := hE13.step hb14
                have hL14 := hL13.below hb14
                clear hE13 hL13 hb14 hT15
                have hO := Own.empty w14
                have hL14a := hL14.alloc (.cells #[] TB)
                go_wp2_with (at_builtin; refine wpList_append_w ?x31 _ _ rfl (w14.heap.size) _ [] rfl hO a11 16 c11 L rfl hL14a ?x33 (by simp) ?x3k)
                case x33 => simp
                intro v15 w15 ho15 hg15 _
                have hb15 : Below w14.heap.size w14 w15 := (((Ext.refl w14).alloc (.cells #[] TB)).grown hg15 hO.blk).1
                have hB15 := Bs.newRow w15 #[.int .u8 0] TB (0, 0) 1 1 [0] rfl (Nat.le_refl _) (by simp [maxLen]) rfl
                clear hO hL14a hg15
                go_wp2_with (at_builtin; refine wpList_append_w ?y31 _ _ rfl (w14.heap.size) v15 L rfl (ho15.alloc _) (some ⟨w15.heap.size, 0, none⟩) 1 1 [0] rfl hB15 ?y33 ?y34 ?y3k)
                case y33 => rw [hL]; omega
                case y34 => have := hb15.size; simp; omega
                intro v16 w16 ho16 hg16 _
                have hb16 : Below w14.heap.size w14 w16 := (Below.grown (Below.alloc hb15 hb15.size (.cells #[.int .u8 0] TB)) hg16 (by have := hb15.size; simp; omega) ho15.blk)
                have hE16 := hE14.step hb16
                obtain ⟨a16, c16, rfl, hB16⟩ := ho16.bsn (n := 17) (by rw [List.length_append, hL]; rfl)
                clear hE14 hL14 ho15 hB15 hb15 hb16 hg16 ho16
                go_wp2_with fail
                refine (law10_read a16 17 c16 _ _ hB16 (by unfold big; omega)).mono ?_
                rintro e w17 ⟨rfl, hb17⟩
                have hE17 := hE16.step hb17
                clear hE16 hB16 hb17
                go_wp2_with fail
                go_roundw
                case rel => exact ⟨p + 1, by omega, by go_num, hE17⟩
                case measure => simp [intOf]; omega
              · obtain ⟨T, hT⟩ : ∃ T : Nat, IntKind.u64.wrap (IntKind.u64.wrap n * 16777216) = (T : Int) := ⟨(IntKind.u64.wrap (IntKind.u64.wrap n * 16777216)).toNat, by rw [IntKind.wrap_u64]; omega⟩
                have hZ2 := cells_set (k := 4) (y := .int .u64 (T : Int)) HZ1.out
                have hE2 := hE1.setCell (p := ⟨Z, 4, none⟩) hBZ (.int .u64 (T : Int))
                have hs2 : Z < (w1.setCell ⟨Z, 4, none⟩ (.int .u64 (T : Int))).heap.size := by simpa [World.setCell] using hs1
                have HZ2 : Hid ((w1.setCell ⟨Z, 4, none⟩ (.int .u64 (T : Int))).heap[Z]? = some (.cells #[.int .i64 5, .int .i64 k, .int .i64 1, .int .i64 0, .int .u64 ((T : Nat) : Int), .bool true] 59 (0, 0))) := Lib.hid hZ2
                clear hZ2 hE1 hs1
                go_upto_region 22 with fail
                generalize w1.setCell ⟨Z, 4, none⟩ (.int .u64 (T : Int)) = w2 at *
                clear d0 d1 d2 d3 d4 d5 g0 g1 g2 g3 g4 g5
                obtain ⟨⟨d0, d1, d2, d3, d4, d5⟩, g0, g1, g2, g3, g4, g5⟩ := six_cells HZ2.out
                have HEN := Lib.hid (fun w => rnenc_any ⟨5, k, 1, 0, T, true⟩ w)
                have HSX2 := Lib.hid (fun w => law10_same ⟨5, k, 1, 0, T, true⟩ w)
                have hL := Nd.rbytes_len ⟨5, k, 1, 0, T, true⟩
                unfold Nd.cells at HEN HSX2
                simp only at HEN HSX2
                generalize Nd.rbytes ⟨5, k, 1, 0, T, true⟩ = L at *
                go_wp2_with fail
                refine (HEN.out _).mono ?_
                rintro e w11 ⟨v11, rfl, ho11, hb11⟩
                have hZ11 := (hb11.block Z hs2).trans HZ2.out
                have hE11 := hE2.step hb11
                obtain ⟨a11, c11, rfl, hL11⟩ := ho11.bsn hL
                clear ho11 HEN hb11 hE2 hs2 d0 d1 d2 d3 d4 d5 g0 g1 g2 g3 g4 g5
                obtain ⟨⟨d0, d1, d2, d3, d4, d5⟩, g0, g1, g2, g3, g4, g5⟩ := six_cells hZ11
                clear hZ11
                go_wp2_with fail
                refine (HSX2.out _).mono ?_
                rintro e w12 ⟨rfl, hb12⟩
                have hE12 := hE11.step hb12
                have hL12 := hL11.below hb12
                clear d0 d1 d2 d3 d4 d5 g0 g1 g2 g3 g4 g5 hE11 hL11 hb12
                go_wp2_with fail
                refine (law10_read a11 16 c11 L _ hL12 (by unfold big; omega)).mono ?_
                rintro e w13 ⟨rfl, hb13⟩
                have hE13 := hE12.step hb13
                have hL13 := hL12.below hb13
                clear hE12 hL12 hb13
                have hc16 := hL13.2.1
                have hT15 := hL13.take (k := 15) (by omega)
                have q1 : (15 : Int) ≤ (c11 : Int) := by omega
                clear hc16
                go_wp2_with fail
                refine (law10_read a11 15 c11 _ _ hT15 (by unfold big; omega)).mono ?_
                rintro e w14 ⟨rfl, hb14⟩
                have hE14 := hE13.step hb14
                have hL14 := hL13.below hb14
                clear hE13 hL13 hb14 hT15
                have hO := Own.empty w14
                have hL14a := hL14.alloc (.cells #[] TB)
                go_wp2_with (at_builtin; refine wpList_append_w ?x41 _ _ rfl (w14.heap.size) _ [] rfl hO a11 16 c11 L rfl hL14a ?x43 (by simp) ?x4k)
                case x43 => simp
                intro v15 w15 ho15 hg15 _
                have hb15 : Below w14.heap.size w14 w15 := (((Ext.refl w14).alloc (.cells #[] TB)).grown hg15 hO.blk).1
                have hB15 := Bs.newRow w15 #[.int .u8 0] TB (0, 0) 1 1 [0] rfl (Nat.le_refl _) (by simp [maxLen]) rfl
                clear hO hL14a hg15
                go_wp2_with (at_builtin; refine wpList_append_w ?y41 _ _ rfl (w14.heap.size) v15 L rfl (ho15.alloc _) (some ⟨w15.heap.size, 0, none⟩) 1 1 [0] rfl hB15 ?y43 ?y44 ?y4k)
                case y43 => rw [hL]; omega
                case y44 => have := hb15.size; simp; omega
                intro v16 w16 ho16 hg16 _
                have hb16 : Below w14.heap.size w14 w16 := (Below.grown (Below.alloc hb15 hb15.size (.cells #[.int .u8 0] TB)) hg16 (by have := hb15.size; simp; omega) ho15.blk)
                have hE16 := hE14.step hb16
                obtain ⟨a16, c16, rfl, hB16⟩ := ho16.bsn (n := 17) (by rw [List.length_append, hL]; rfl)
                clear hE14 hL14 ho15 hB15 hb15 hb16 hg16 ho16
                go_wp2_with fail
                refine (law10_read a16 17 c16 _ _ hB16 (by unfold big; omega)).mono ?_
                rintro e w17 ⟨rfl, hb17⟩
                have hE17 := hE16.step hb17
                clear hE16 hB16 hb17
                go_wp2_with fail
                go_roundw
                case rel => exact ⟨p + 1, by omega, by go_num, hE17⟩
                case measure => simp [intOf]; omega
              · have hZ2 := cells_set (k := 5) (y := .bool (n.tmod 2 == 0)) HZ1.out
                have hE2 := hE1.setCell (p := ⟨Z, 5, none⟩) hBZ (.bool (n.tmod 2 == 0))
                have hs2 : Z < (w1.setCell ⟨Z, 5, none⟩ (.bool (n.tmod 2 == 0))).heap.size := by simpa [World.setCell] using hs1
                have HZ2 : Hid ((w1.setCell ⟨Z, 5, none⟩ (.bool (n.tmod 2 == 0))).heap[Z]? = some (.cells #[.int .i64 5, .int .i64 k, .int .i64 1, .int .i64 0, .int .u64 ((0 : Nat) : Int), .bool (n.tmod 2 == 0)] 59 (0, 0))) := Lib.hid hZ2
                clear hZ2 hE1 hs1
                go_upto_region 22 with fail
                generalize w1.setCell ⟨Z, 5, none⟩ (.bool (n.tmod 2 == 0)) = w2 at *
                clear d0 d1 d2 d3 d4 d5 g0 g1 g2 g3 g4 g5
                obtain ⟨⟨d0, d1, d2, d3, d4, d5⟩, g0, g1, g2, g3, g4, g5⟩ := six_cells HZ2.out
                have HEN := Lib.hid (fun w => rnenc_any ⟨5, k, 1, 0, 0, (n.tmod 2 == 0)⟩ w)
                have HSX2 := Lib.hid (fun w => law10_same ⟨5, k, 1, 0, 0, (n.tmod 2 == 0)⟩ w)
                have hL := Nd.rbytes_len ⟨5, k, 1, 0, 0, (n.tmod 2 == 0)⟩
                unfold Nd.cells at HEN HSX2
                simp only at HEN HSX2
                generalize Nd.rbytes ⟨5, k, 1, 0, 0, (n.tmod 2 == 0)⟩ = L at *
                go_wp2_with fail
                refine (HEN.out _).mono ?_
                rintro e w11 ⟨v11, rfl, ho11, hb11⟩
                have hZ11 := (hb11.block Z hs2).trans HZ2.out
                have hE11 := hE2.step hb11
                obtain ⟨a11, c11, rfl, hL11⟩ := ho11.bsn hL
                clear ho11 HEN hb11 hE2 hs2 d0 d1 d2 d3 d4 d5 g0 g1 g2 g3 g4 g5
                obtain ⟨⟨d0, d1, d2, d3, d4, d5⟩, g0, g1, g2, g3, g4, g5⟩ := six_cells hZ11
                clear hZ11
                go_wp2_with fail
                refine (HSX2.out _).mono ?_
                rintro e w12 ⟨rfl, hb12⟩
                have hE12 := hE11.step hb12
                have hL12 := hL11.below hb12
                clear d0 d1 d2 d3 d4 d5 g0 g1 g2 g3 g4 g5 hE11 hL11 hb12
                go_wp2_with fail
                refine (law10_read a11 16 c11 L _ hL12 (by unfold big; omega)).mono ?_
                rintro e w13 ⟨rfl, hb13⟩
                have hE13 := hE12.step hb13
                have hL13 := hL12.below hb13
                clear hE12 hL12 hb13
                have hc16 := hL13.2.1
                have hT15 := hL13.take (k := 15) (by omega)
                have q1 : (15 : Int) ≤ (c11 : Int) := by omega
                clear hc16
                go_wp2_with fail
                refine (law10_read a11 15 c11 _ _ hT15 (by unfold big; omega)).mono ?_
                rintro e w14 ⟨rfl, hb14⟩
                have hE14 := hE13.step hb14
                have hL14 := hL13.below hb14
                clear hE13 hL13 hb14 hT15
                have hO := Own.empty w14
                have hL14a := hL14.alloc (.cells #[] TB)
                go_wp2_with (at_builtin; refine wpList_append_w ?x51 _ _ rfl (w14.heap.size) _ [] rfl hO a11 16 c11 L rfl hL14a ?x53 (by simp) ?x5k)
                case x53 => simp
                intro v15 w15 ho15 hg15 _
                have hb15 : Below w14.heap.size w14 w15 := (((Ext.refl w14).alloc (.cells #[] TB)).grown hg15 hO.blk).1
                have hB15 := Bs.newRow w15 #[.int .u8 0] TB (0, 0) 1 1 [0] rfl (Nat.le_refl _) (by simp [maxLen]) rfl
                clear hO hL14a hg15
                go_wp2_with (at_builtin; refine wpList_append_w ?y51 _ _ rfl (w14.heap.size) v15 L rfl (ho15.alloc _) (some ⟨w15.heap.size, 0, none⟩) 1 1 [0] rfl hB15 ?y53 ?y54 ?y5k)
                case y53 => rw [hL]; omega
                case y54 => have := hb15.size; simp; omega
                intro v16 w16 ho16 hg16 _
                have hb16 : Below w14.heap.size w14 w16 := (Below.grown (Below.alloc hb15 hb15.size (.cells #[.int .u8 0] TB)) hg16 (by have := hb15.size; simp; omega) ho15.blk)
                have hE16 := hE14.step hb16
                obtain ⟨a16, c16, rfl, hB16⟩ := ho16.bsn (n := 17) (by rw [List.length_append, hL]; rfl)
                clear hE14 hL14 ho15 hB15 hb15 hb16 hg16 ho16
                go_wp2_with fail
                refine (law10_read a16 17 c16 _ _ hB16 (by unfold big; omega)).mono ?_
                rintro e w17 ⟨rfl, hb17⟩
                have hE17 := hE16.step hb17
                clear hE16 hB16 hb17
                go_wp2_with fail
                go_roundw
                case rel => exact ⟨p + 1, by omega, by go_num, hE17⟩
                case measure => simp [intOf]; omega
              · have HZ2 : Hid (w1.heap[Z]? = some (.cells #[.int .i64 5, .int .i64 k, .int .i64 1, .int .i64 0, .int .u64 ((0 : Nat) : Int), .bool true] 59 (0, 0))) := Lib.hid HZ1.out
                go_upto_region 22 with fail
                clear d0 d1 d2 d3 d4 d5 g0 g1 g2 g3 g4 g5
                obtain ⟨⟨d0, d1, d2, d3, d4, d5⟩, g0, g1, g2, g3, g4, g5⟩ := six_cells HZ2.out
                have HEN := Lib.hid (fun w => rnenc_any ⟨5, k, 1, 0, 0, true⟩ w)
                have HSX2 := Lib.hid (fun w => law10_same ⟨5, k, 1, 0, 0, true⟩ w)
                have hL := Nd.rbytes_len ⟨5, k, 1, 0, 0, true⟩
                unfold Nd.cells at HEN HSX2
                simp only at HEN HSX2
                generalize Nd.rbytes ⟨5, k, 1, 0, 0, true⟩ = L at *
                go_wp2_with fail
                refine (HEN.out _).mono ?_
                rintro e w11 ⟨v11, rfl, ho11, hb11⟩
                have hZ11 := (hb11.block Z hs1).trans HZ2.out
                have hE11 := hE1.step hb11
                obtain ⟨a11, c11, rfl, hL11⟩ := ho11.bsn hL
                clear ho11 HEN hb11 hE1 hs1 d0 d1 d2 d3 d4 d5 g0 g1 g2 g3 g4 g5
                obtain ⟨⟨d0, d1, d2, d3, d4, d5⟩, g0, g1, g2, g3, g4, g5⟩ := six_cells hZ11
                clear hZ11
                go_wp2_with fail
                refine (HSX2.out _).mono ?_
                rintro e w12 ⟨rfl, hb12⟩
                have hE12 := hE11.step hb12
                have hL12 := hL11.below hb12
                clear d0 d1 d2 d3 d4 d5 g0 g1 g2 g3 g4 g5 hE11 hL11 hb12
                go_wp2_with fail
                refine (law10_read a11 16 c11 L _ hL12 (by unfold big; omega)).mono ?_
                rintro e w13 ⟨rfl, hb13⟩
                have hE13 := hE12.step hb13
                have hL13 := hL12.below hb13
                clear hE12 hL12 hb13
                have hc16 := hL13.2.1
                have hT15 := hL13.take (k := 15) (by omega)
                have q1 : (15 : Int) ≤ (c11 : Int) := by omega
                clear hc16
                go_wp2_with fail
                refine (law10_read a11 15 c11 _ _ hT15 (by unfold big; omega)).mono ?_
                rintro e w14 ⟨rfl, hb14⟩
                have hE14 := hE13.step hb14
                have hL14 := hL13.below hb14
                clear hE13 hL13 hb14 hT15
                have hO := Own.empty w14
                have hL14a := hL14.alloc (.cells #[] TB)
                go_wp2_with (at_builtin; refine wpList_append_w ?x61 _ _ rfl (w14.heap.size) _ [] rfl hO a11 16 c11 L rfl hL14a ?x63 (by simp) ?x6k)
                case x63 => simp
                intro v15 w15 ho15 hg15 _
                have hb15 : Below w14.heap.size w14 w15 := (((Ext.refl w14).alloc (.cells #[] TB)).grown hg15 hO.blk).1
                have hB15 := Bs.newRow w15 #[.int .u8 0] TB (0, 0) 1 1 [0] rfl (Nat.le_refl _) (by simp [maxLen]) rfl
                clear hO hL14a hg15
                go_wp2_with (at_builtin; refine wpList_append_w ?y61 _ _ rfl (w14.heap.size) v15 L rfl (ho15.alloc _) (some ⟨w15.heap.size, 0, none⟩) 1 1 [0] rfl hB15 ?y63 ?y64 ?y6k)
                case y63 => rw [hL]; omega
                case y64 => have := hb15.size; simp; omega
                intro v16 w16 ho16 hg16 _
                have hb16 : Below w14.heap.size w14 w16 := (Below.grown (Below.alloc hb15 hb15.size (.cells #[.int .u8 0] TB)) hg16 (by have := hb15.size; simp; omega) ho15.blk)
                have hE16 := hE14.step hb16
                obtain ⟨a16, c16, rfl, hB16⟩ := ho16.bsn (n := 17) (by rw [List.length_append, hL]; rfl)
                clear hE14 hL14 ho15 hB15 hb15 hb16 hg16 ho16
                go_wp2_with fail
                refine (law10_read a16 17 c16 _ _ hB16 (by unfold big; omega)).mono ?_
                rintro e w17 ⟨rfl, hb17⟩
                have hE17 := hE16.step hb17
                clear hE16 hB16 hb17
                go_wp2_with fail
                go_roundw
                case rel => exact ⟨p + 1, by omega, by go_num, hE17⟩
                case measure => simp [intOf]; omega
            · obtain rfl : p = 7 := by omega
              have hEy2 := hEB.to (hEy.1.mono hEB.2)
              clear hEy
              go_wp2_with fail
              go_roundw
              case rel => exact ⟨j + 1, by omega, by omega, by go_num, hEy2⟩
              case measure => simp [intOf]; omega
        · obtain rfl : j = 6 := by omega
          go_wp2_with fail
          go_roundw
          case rel => exact ⟨k + 1, by omega, by omega, by go_num, hEx⟩
          case measure => simp [intOf]; omega
    · clear hk1 hk2
      go_wp2_with fail
      refine (law10_read none 0 0 [] _ (Bs.nil _) (Nat.zero_le _)).mono ?_
      rintro e w1 ⟨rfl, hb1⟩
      have hE1 := hE.step hb1
      go_wp2_with fail
      refine (node_known _).mono ?_
      rintro e w4 ⟨rfl, hb4⟩
      go_wp2_with fail
      go_ret
      exact ⟨rfl, (hE1.step hb4).1⟩
end Go.Proofs.Ytmedamofmlkccaa
