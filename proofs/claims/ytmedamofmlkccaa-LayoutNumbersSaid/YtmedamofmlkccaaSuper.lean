/- The contracts of layout.Super. -/
import Derived.Test.YtmedamofmlkccaaCodecUse
import Derived.Test.YtmedamofmlkccaaCrc
import Derived.Test.YtmedamofmlkccaaLayOf
namespace Go.Proofs.Ytmedamofmlkccaa
open Go.RowKit

/-- what is summed; the sector -/
def supHead (n : Nat) (id : List UInt8) : List UInt8 := [87, 79, 82, 77] ++ (be 1 2 ++ (be n 2 ++ id))
def supTail (c : Nat) : List UInt8 := be (c / 65536) 2 ++ (be c 2 ++ List.replicate 100 0)
def supBytes (n : Nat) (id : List UInt8) : List UInt8 := supHead n id ++ supTail (crcMore 0 (supHead n id))
set_option maxRecDepth 100000 in
theorem super_ok (n : Nat) (a : Option Addr) (cap : Nat) (id : List UInt8) (w : World) (h : Bs w a 16 cap id) (h1 : 64 ≤ n) (h2 : n ≤ 4096) :
    Calls Try.prog 45 #[.int .i64 (n : Int), .slice a 16 cap] w fun e w' => ∃ v, e = .returned (.tuple #[v, .int .i64 0]) ∧ Own w' w.heap.size v (supBytes n id) ∧ Below w.heap.size w w' := by
  have hil := h.1
  go_enter Try.func45, Try.ntmps45
  go_wp2_with fail
  refine (of_ok n _ (by omega) (by omega)).mono ?_
  rintro e w1 ⟨rfl, hb1⟩
  have hE1 := (Ext.refl w).step hb1
  have hB1 := h.below hb1
  generalize hsg : seg (n : Int) = sg
  clear hsg
  go_wp2_with fail
  have hE2 := hE1.alloc (.cells #[.int .i64 (n : Int), .int .i64 ((n : Int) / 4), .int .i64 sg] 76)
  have hB2 := hB1.alloc (.cells #[.int .i64 (n : Int), .int .i64 ((n : Int) / 4), .int .i64 sg] 76)
  generalize w1.alloc (.cells #[.int .i64 (n : Int), .int .i64 ((n : Int) / 4), .int .i64 sg] 76) = w2 at *
  refine (wnew_any w2).mono ?_
  rintro e w3 ⟨rfl, hW3, hb3⟩
  obtain ⟨p, hp⟩ : ∃ p, p = w2.heap.size := ⟨_, rfl⟩
  rw [← hp] at hW3 ⊢
  have HP := Lib.hid hp
  have hI3 : WI w2 p p w3 [] := ⟨by rw [hp]; exact (Ext.refl w2).step hb3, none, hW3⟩
  clear hW3 hb3 hE1 hB1 h hb1 hp
  have kc := fun (w : World) (C : Array Value) (n c : Nat) => Lib.run_convert_bytes_const (P := Try.prog) w 26 5 C n c Try.underlying26 Try.underlying5
  have hm := Bs.newRow w3 #[.int .u8 87, .int .u8 79, .int .u8 82, .int .u8 77] TB (4, 5) 4 4 [87, 79, 82, 77] rfl (by omega) (by simp [maxLen]) rfl
  have hI3' := hI3.below ((Below.refl _ _).alloc (Nat.le_refl _) (.cells #[.int .u8 87, .int .u8 79, .int .u8 82, .int .u8 77] TB (4, 5)))
  go_wp2_with fail
  refine (wraw_ok hI3' hm (by unfold big; simp)).mono ?_
  rintro e w4 ⟨rfl, hI4⟩
  clear hI3 hI3' hm
  go_wp2_with fail
  refine (wshort_ok 1 hI4 (by omega) (by simp; unfold big; decide)).mono ?_
  rintro e w5 ⟨rfl, hI5⟩
  clear hI4
  go_wp2_with fail
  refine (wshort_ok n hI5 (by omega) (by simp [be_length]; unfold big; decide)).mono ?_
  rintro e w6 ⟨rfl, hI6⟩
  clear hI5
  have hB6 := hI6.1.bs HP.out.symm hB2
  go_wp2_with fail
  refine (wraw_ok hI6 hB6 (by simp [be_length]; unfold big; decide)).mono ?_
  rintro e w7 ⟨rfl, hI7⟩
  have e1 : [] ++ [87, 79, 82, 77] ++ be 1 2 ++ be n 2 ++ id = supHead n id := by simp [supHead]
  rw [e1] at hI7
  have hSl : (supHead n id).length = 24 := by simp [supHead, be_length, hil]
  clear hI6 hB6 e1
  have HX := Lib.hid (show supBytes n id = supHead n id ++ supTail (crcMore 0 (supHead n id)) from rfl)
  generalize supHead n id = X at *
  go_wp2_with fail
  refine (wdone_ok hI7 (by rw [hSl]; unfold big; decide)).mono ?_
  rintro e w8 ⟨a8, c8, rfl, _, hB8, hI8⟩
  clear hI7
  go_wp2_with fail
  rw [hSl] at hB8
  refine (sum_any _ _ _ _ _ hB8).mono ?_
  rintro e w9 ⟨rfl, rfl⟩
  have hcl := crcMore_lt 0 X
  generalize crcMore 0 X = c at *
  clear hB8
  go_wp2_with fail
  have hS1 := wshort_ok (c / 65536) hI8 (by omega) (by rw [hSl]; unfold big; decide)
  rw [show ((c / 65536 : Nat) : Int) = (c : Int) / 65536 by omega] at hS1
  refine hS1.mono ?_
  rintro e w9 ⟨rfl, hI9⟩
  clear hS1 hI8
  go_wp2_with fail
  refine (wshort_ok c hI9 (by omega) (by rw [List.length_append, hSl, be_length]; unfold big; decide)).mono ?_
  rintro e w10 ⟨rfl, hI10⟩
  clear hI9
  have hl10 : (X ++ be (c / 65536) 2 ++ be c 2).length = 28 := by rw [List.length_append, List.length_append, hSl, be_length, be_length]
  have hI10' : WI w2 p p w10 (X ++ be (c / 65536) 2 ++ be c 2) := hI10
  have HY := Lib.hid (show (X ++ be (c / 65536) 2 ++ be c 2) ++ List.replicate 100 0 = X ++ supTail c by simp [supTail])
  clear hI10
  generalize X ++ be (c / 65536) 2 ++ be c 2 = Y at *
  go_wp2_with fail
  refine (wdone_ok hI10' (by rw [hl10]; unfold big; decide)).mono ?_
  rintro e w11 ⟨a11, c11, rfl, _, _, hI11⟩
  clear hI10'
  have hmk : ∀ W, (Instr.makeSlice 26 (.int .i64 (100 : Int)) (.int .i64 (100 : Int))).run Try.prog W = .ok (.slice (some ⟨W.heap.size, 0, none⟩) 100 100) (W.alloc (.cells (madeCells #[.int .u8 0] 100) TB)) := fun W => run_make_bytes 100 (by omega) W
  have hZ := (Row.zero w11 100 (by simp [maxLen])).bs
  rw [List.length_replicate] at hZ
  have hI11' := hI11.below ((Below.refl _ _).alloc (Nat.le_refl _) (.cells (madeCells #[.int .u8 0] 100) TB))
  clear hI11
  go_wp2_with fail
  refine (wraw_ok hI11' hZ (by rw [hl10]; unfold big; decide)).mono ?_
  rintro e w12 ⟨rfl, hI12⟩
  clear hI11' hZ
  rw [HY.out, ← HX.out] at hI12
  have hl12 : (supBytes n id).length ≤ 128 := by rw [HX.out, List.length_append, hSl]; simp [supTail, be_length]
  obtain ⟨Z, hZe⟩ : ∃ Z, Z = supBytes n id := ⟨_, rfl⟩
  rw [← hZe] at hI12 hl12
  have HZ := Lib.hid hZe
  clear hZe
  go_wp2_with fail
  refine (wdone_ok hI12 (by unfold big; omega)).mono ?_
  rintro e w13 ⟨a13, c13, rfl, ho, hB13, hI13⟩
  go_wp2_with fail
  go_ret2
  have hEf : Ext w.heap.size w w13 := hE2.to (hI13.1.1.mono (by rw [HP.out]; exact hE2.2))
  exact ⟨.slice a13 Z.length c13, rfl, by rw [← HZ.out]; exact ho.base (hE2.to (hI12.1.1.mono (by rw [HP.out]; exact hE2.2))).2, hEf.1⟩

set_option maxRecDepth 100000 in
theorem super_no (n : Int) (a : Option Addr) (len cap : Nat) (w : World) (h : n < 64 ∨ 4096 < n ∨ len ≠ 16) :
    Calls Try.prog 45 #[.int .i64 n, .slice a len cap] w fun e w' => e = .returned (.tuple #[.slice none 0 0, .int .i64 1]) ∧ Below w.heap.size w w' := by
  by_cases hn : n < 64 ∨ 4096 < n
  · go_enter Try.func45, Try.ntmps45
    go_wp2_with fail
    refine (of_bad n _ hn).mono ?_
    rintro e w1 ⟨rfl, hb1⟩
    go_wp2_with fail
    go_ret2
    exact ⟨rfl, (((Ext.refl w).step hb1).alloc _).1⟩
  · have hl : ((len : Int) != 16) = true := by rw [bne_iff_ne]; omega
    go_enter Try.func45, Try.ntmps45
    go_wp2_with fail
    refine (of_ok n _ (by omega) (by omega)).mono ?_
    rintro e w1 ⟨rfl, hb1⟩
    go_wp2_with fail
    go_ret2
    exact ⟨rfl, (((Ext.refl w).step hb1).alloc _).1⟩
end Go.Proofs.Ytmedamofmlkccaa
