/- extract.Tree on two trees of one leaf; chapter 25's runs. -/
import Derived.Test.YtdglhonogopciaaHeads
import Derived.Test.YtdglhonogopciaaMerkA
namespace Go.Proofs.Ytdglhonogopciaa
open Go.RowKit

set_option maxRecDepth 100000 in
set_option maxHeartbeats 1000000 in
theorem eqfunc_one (a a' : Option Addr) (c c' : Nat) (X Y : List UInt8) (w : World) (hA : LL w a 1 c [X]) (hB : LL w a' 1 c' [Y]) :
    Calls Try.prog 37 #[.slice a 1 c, .slice a' 1 c', .func (.func 28) #[] #[]] w fun e w' => e = .returned (.bool (decide (X = Y))) ∧ w = w' := by
  obtain ⟨b, off, rfl, hb, hc⟩ := hA.at (by omega)
  obtain ⟨b', off', rfl, hb', hc'⟩ := hB.at (by omega)
  obtain ⟨xa, xm, xc, h1, h2⟩ := hc 0 (by omega)
  obtain ⟨ya, ym, yc, h3, h4⟩ := hc' 0 (by omega)
  have HE := Lib.hid (beq_any xa ya xm ym xc yc X Y w h2 h4)
  simp only [Nat.add_zero] at h1 h3
  have hcc := hA.2.1
  have hcc' := hB.2.1
  clear hc hc' hA hB h2 h4
  go_enter Try.func37, Try.ntmps37
  go_wp2_with fail
  go_loopw [17] (fun i wr => wr = w ∧ (i = .int .i64 0 ∨ i = .int .i64 1 ∧ X = Y)) (fun i _ => 1 - (intOf i).toNat)
  case atStart => exact ⟨rfl, .inl rfl⟩
  case round =>
    obtain ⟨rfl, rfl | ⟨rfl, hXY⟩⟩ := hrel
    · by_cases hXY : X = Y
      · rw [decide_eq_true hXY] at HE
        have HXY := Lib.hid hXY
        clear hXY
        go_wp2_with fail
        refine HE.out.mono ?_
        rintro e w1 ⟨rfl, rfl⟩
        go_wp2_with fail
        go_roundw
        case rel => exact ⟨trivial, .inr ⟨by go_num, HXY.out⟩⟩
        case measure => simp [intOf]
      · rw [decide_eq_false hXY] at HE
        have HXY := Lib.hid hXY
        clear hXY
        go_wp2_with fail
        refine HE.out.mono ?_
        rintro e w1 ⟨rfl, rfl⟩
        go_wp2_with fail
        go_ret
        exact ⟨by rw [decide_eq_false HXY.out]; rfl, rfl⟩
    · have hd := decide_eq_true hXY
      have HD := Lib.hid hd
      clear hXY hd
      go_wp2_with fail
      go_ret
      exact ⟨by rw [HD.out]; rfl, rfl⟩

set_option maxRecDepth 100000 in
set_option maxHeartbeats 1000000 in
theorem tree_one (a a' : Option Addr) (c c' : Nat) (X Y : List UInt8) (w : World) (hA : LL w a 1 c [X]) (hB : LL w a' 1 c' [Y]) (hX : X.length ≤ 1000) (hY : Y.length ≤ 1000) (h : X = Y ∨ sha (0 :: X) ≠ sha (0 :: Y)) :
    Calls Try.prog 16 #[.slice a 1 c, .slice a' 1 c'] w fun e w' => e = .returned (.tuple #[.slice none 0 0, .slice none 0 0, .bool false]) ∧ Below w.heap.size w w' := by
  have HQ := Lib.hid (eqfunc_one a a' c c' X Y w hA hB)
  have hsame : Calls Try.prog 27 #[.slice a 1 c, .slice a' 1 c'] w fun e w' => e = .returned (.bool (decide (X = Y))) ∧ w = w' := by
    go_enter Try.func27, Try.ntmps27
    go_wp2_with fail
    refine HQ.out.mono ?_
    rintro e w1 ⟨rfl, rfl⟩
    go_wp2_with fail
    go_ret
    exact ⟨rfl, rfl⟩
  have HS := Lib.hid hsame
  clear hsame HQ
  by_cases hXY : X = Y
  · rw [decide_eq_true hXY] at HS
    clear h hXY
    go_enter Try.func16, Try.ntmps16
    go_wp2_with fail
    refine HS.out.mono ?_
    rintro e w1 ⟨rfl, rfl⟩
    go_wp2_with fail
    go_ret3
    exact ⟨rfl, Below.refl _ _⟩
  · have hne : sha (0 :: X) ≠ sha (0 :: Y) := h.elim (fun e => absurd e hXY) id
    rw [decide_eq_false hXY] at HS
    have hr1 : mroot [X] = sha (0 :: X) := mroot_one X
    have hr2 : mroot [Y] = sha (0 :: Y) := mroot_one Y
    have HR1 := Lib.hid (root_any 1 a c [X] w hA (by simpa using hX) (by omega))
    have HR2 := Lib.hid (fun w1 (hb : Below w.heap.size w w1) => root_any 1 a' c' [Y] w1 (hB.below hb) (by simpa using hY) (by omega))
    rw [hr1] at HR1
    rw [hr2] at HR2
    have HD := Lib.hid (decide_eq_false hne)
    clear h hXY hne hr1 hr2
    go_enter Try.func16, Try.ntmps16
    go_wp2_with fail
    refine HS.out.mono ?_
    rintro e w1 ⟨rfl, rfl⟩
    go_wp2_with fail
    refine HR1.out.mono ?_
    rintro e w2 ⟨v1, rfl, ho1, hb1⟩
    obtain ⟨s1, k1, rfl, hS1⟩ := ho1.bsn (n := 32) (sha_length _)
    go_wp2_with fail
    refine (HR2.out _ hb1).mono ?_
    rintro e w3 ⟨v2, rfl, ho2, hb2⟩
    obtain ⟨s2, k2, rfl, hS2⟩ := ho2.bsn (n := 32) (sha_length _)
    have hE := ((Ext.refl w).step hb1).step hb2
    have hS1' := hS1.below hb2
    have HEQ := Lib.hid (beq_any s1 s2 32 32 k1 k2 _ _ _ hS1' hS2)
    rw [HD.out] at HEQ
    clear hb1 hb2 ho1 ho2 hS1 hS2 hS1'
    go_wp2_with fail
    refine HEQ.out.mono ?_
    rintro e w4 ⟨rfl, rfl⟩
    go_wp2_with fail
    go_ret3
    exact ⟨rfl, hE.1⟩

theorem Bs.lit (w : World) (x : UInt8) : Bs (w.alloc (.cells #[.int .u8 (x.toNat : Int)] TB (1, 2))) (some ⟨w.heap.size, 0, none⟩) 1 1 [x] :=
  Bs.newRow w _ TB (1, 2) 1 1 [x] rfl (Nat.le_refl _) (by simp [maxLen]) rfl
theorem size_al (w : World) (o : Obj) : (w.alloc o).heap.size = w.heap.size + 1 := by simp
theorem lit_list (w : World) (x : UInt8) : LL ((w.alloc (.cells #[.int .u8 (x.toNat : Int)] TB)).alloc (.cells #[.slice (some ⟨w.heap.size, 0, none⟩) 1 1] TBS)) (some ⟨w.heap.size + 1, 0, none⟩) 1 1 [[x]] := by
  have h := LL.one _ (Bs.newRow w #[.int .u8 (x.toNat : Int)] TB (0, 0) 1 1 [x] rfl (Nat.le_refl _) (by simp [maxLen]) rfl)
  rw [size_al] at h
  exact h
set_option maxRecDepth 100000 in
theorem sha_12 : (sha [0, 1]).getD 0 0 ≠ (sha [0, 2]).getD 0 0 := by decide +kernel
set_option maxRecDepth 100000 in
theorem sha_ab : (sha [97]).getD 0 0 ≠ (sha [98]).getD 0 0 := by decide +kernel

set_option maxRecDepth 100000 in
set_option maxHeartbeats 2000000 in
theorem extr_known (w : World) : Calls Try.prog 9 #[] w fun e w' => e = .returned (.bool true) ∧ Below w.heap.size w w' := by
  have h12 : sha [0, 1] ≠ sha [0, 2] := fun e => sha_12 (by rw [e])
  have hab : sha [97] ≠ sha [98] := fun e => sha_ab (by rw [e])
  have HAB := Lib.hid hab
  have H12 := Lib.hid h12
  clear h12 hab
  have kc := fun (w : World) (C : Array Value) (n c : Nat) => Lib.run_convert_bytes_const (P := Try.prog) w 23 5 C n c Try.underlying23 Try.underlying5
  have HC1 := Lib.hid (fun (a a' : Option Addr) (w : World) (h : Bs w a 1 1 [97]) (h' : Bs w a' 1 1 [97]) => show Calls Try.prog 17 #[.slice a 1 1, .slice a' 1 1] w fun e w' => e = .returned (.bool false) ∧ Below w.heap.size w w' from by
    have := xClash_any a a' 1 1 1 1 [97] [97] w h h' (by omega) (by omega)
    rwa [decide_eq_false (by simp)] at this)
  have HC2 := Lib.hid (fun (a a' : Option Addr) (w : World) (h : Bs w a 1 1 [97]) (h' : Bs w a' 1 1 [98]) => show Calls Try.prog 17 #[.slice a 1 1, .slice a' 1 1] w fun e w' => e = .returned (.bool false) ∧ Below w.heap.size w w' from by
    have := xClash_any a a' 1 1 1 1 [97] [98] w h h' (by omega) (by omega)
    rwa [decide_eq_false (fun hh => HAB.out hh.2)] at this)
  have HC3 := Lib.hid (fun (a a' : Option Addr) (w : World) (h : Bs w a 1 1 [97]) (h' : Bs w a' 1 1 [98]) => show Calls Try.prog 8 #[.slice a 1 1, .slice a' 1 1] w fun e w' => e = .returned (.bool false) ∧ Below w.heap.size w w' from by
    have := lawclash_any a a' 1 1 1 1 [97] [98] w h h' (by omega) (by omega) (by decide)
    rwa [decide_eq_false HAB.out] at this)
  have hE := Ext.refl w
  have hLA := ((lit_list w 1).below (((Below.refl _ _).alloc (Nat.le_refl _) (.cells #[.int .u8 1] TB)).alloc (by simp) (.cells #[.slice (some ⟨w.heap.size + 1 + 1, 0, none⟩) 1 1] TBS)))
  have hLB := lit_list ((w.alloc (.cells #[.int .u8 1] TB)).alloc (.cells #[.slice (some ⟨w.heap.size, 0, none⟩) 1 1] TBS)) 1
  simp only [size_al] at hLB
  have hE := (((hE.alloc (.cells #[.int .u8 1] TB)).alloc (.cells #[.slice (some ⟨w.heap.size, 0, none⟩) 1 1] TBS)).alloc (.cells #[.int .u8 1] TB)).alloc (.cells #[.slice (some ⟨w.heap.size + 1 + 1, 0, none⟩) 1 1] TBS)
  have HT1 := Lib.hid (tree_one _ _ 1 1 [1] [1] _ hLA hLB (by decide) (by decide) (.inl rfl))
  clear hLA hLB
  go_enter Try.func9, Try.ntmps9
  go_wp2_with fail
  refine HT1.out.mono ?_
  rintro e w1 ⟨rfl, hb⟩
  have hE := hE.step hb
  clear hb HT1
  have hLA := ((lit_list w1 1).below (((Below.refl _ _).alloc (Nat.le_refl _) (.cells #[.int .u8 2] TB)).alloc (by simp) (.cells #[.slice (some ⟨w1.heap.size + 1 + 1, 0, none⟩) 1 1] TBS)))
  have hLB := lit_list ((w1.alloc (.cells #[.int .u8 1] TB)).alloc (.cells #[.slice (some ⟨w1.heap.size, 0, none⟩) 1 1] TBS)) 2
  simp only [size_al] at hLB
  have hE := (((hE.alloc (.cells #[.int .u8 1] TB)).alloc (.cells #[.slice (some ⟨w1.heap.size, 0, none⟩) 1 1] TBS)).alloc (.cells #[.int .u8 2] TB)).alloc (.cells #[.slice (some ⟨w1.heap.size + 1 + 1, 0, none⟩) 1 1] TBS)
  have HT1 := Lib.hid (tree_one _ _ 1 1 [1] [2] _ hLA hLB (by decide) (by decide) (.inr H12.out))
  clear hLA hLB
  go_wp2_with fail
  refine HT1.out.mono ?_
  rintro e w2 ⟨rfl, hb⟩
  have hE := hE.step hb
  clear hb HT1
  have k1 := kc w2 #[.int .u8 97] 1 1
  have hA : Bs (w2.alloc (.cells #[.int .u8 97] TB (1, 2))) (some ⟨w2.heap.size, 0, none⟩) 1 1 [97] := Bs.lit w2 97
  have HSU := Lib.hid (shasum_any _ 1 1 [97] _ hA (by omega))
  have hE := hE.alloc (.cells #[.int .u8 97] TB (1, 2))
  clear hA
  go_wp2_with fail
  refine HSU.out.mono ?_
  rintro e w3 ⟨v3, rfl, ho3, hb⟩
  obtain ⟨s3, k3, rfl, hS3⟩ := ho3.bsn (n := 32) (sha_length _)
  have hE := hE.step hb
  clear hb k1 HSU ho3 hS3
  have k1 := kc w3 #[.int .u8 97] 1 1
  have k2 := kc (w3.alloc (.cells #[.int .u8 97] TB (1, 2))) #[.int .u8 97] 1 1
  have hA : Bs ((w3.alloc (.cells #[.int .u8 97] TB (1, 2))).alloc (.cells #[.int .u8 97] TB (1, 2))) (some ⟨w3.heap.size, 0, none⟩) 1 1 [97] := (Bs.lit w3 97).alloc _
  have hB : Bs ((w3.alloc (.cells #[.int .u8 97] TB (1, 2))).alloc (.cells #[.int .u8 97] TB (1, 2))) (some ⟨(w3.alloc (.cells #[.int .u8 97] TB (1, 2))).heap.size, 0, none⟩) 1 1 [97] := Bs.lit _ 97
  simp only [size_al] at k2 hB
  have hE := (hE.alloc (.cells #[.int .u8 97] TB (1, 2))).alloc (.cells #[.int .u8 97] TB (1, 2))
  have HA := Lib.hid hA
  have HB' := Lib.hid hB
  clear hA hB
  go_wp2_with fail
  refine (HC1.out _ _ _ HA.out HB'.out).mono ?_
  rintro e w4 ⟨rfl, hb⟩
  have hE := hE.step hb
  clear hb k1 k2 HA HB'
  have k1 := kc w4 #[.int .u8 97] 1 1
  have k2 := kc (w4.alloc (.cells #[.int .u8 97] TB (1, 2))) #[.int .u8 98] 1 1
  have hA : Bs ((w4.alloc (.cells #[.int .u8 97] TB (1, 2))).alloc (.cells #[.int .u8 98] TB (1, 2))) (some ⟨w4.heap.size, 0, none⟩) 1 1 [97] := (Bs.lit w4 97).alloc _
  have hB : Bs ((w4.alloc (.cells #[.int .u8 97] TB (1, 2))).alloc (.cells #[.int .u8 98] TB (1, 2))) (some ⟨(w4.alloc (.cells #[.int .u8 97] TB (1, 2))).heap.size, 0, none⟩) 1 1 [98] := Bs.lit _ 98
  simp only [size_al] at k2 hB
  have hE := (hE.alloc (.cells #[.int .u8 97] TB (1, 2))).alloc (.cells #[.int .u8 98] TB (1, 2))
  have HA := Lib.hid hA
  have HB' := Lib.hid hB
  clear hA hB
  go_wp2_with fail
  refine (HC2.out _ _ _ HA.out HB'.out).mono ?_
  rintro e w5 ⟨rfl, hb⟩
  have hE := hE.step hb
  clear hb k1 k2 HA HB'
  have k1 := kc w5 #[.int .u8 97] 1 1
  have k2 := kc (w5.alloc (.cells #[.int .u8 97] TB (1, 2))) #[.int .u8 98] 1 1
  have hA : Bs ((w5.alloc (.cells #[.int .u8 97] TB (1, 2))).alloc (.cells #[.int .u8 98] TB (1, 2))) (some ⟨w5.heap.size, 0, none⟩) 1 1 [97] := (Bs.lit w5 97).alloc _
  have hB : Bs ((w5.alloc (.cells #[.int .u8 97] TB (1, 2))).alloc (.cells #[.int .u8 98] TB (1, 2))) (some ⟨(w5.alloc (.cells #[.int .u8 97] TB (1, 2))).heap.size, 0, none⟩) 1 1 [98] := Bs.lit _ 98
  simp only [size_al] at k2 hB
  have hE := (hE.alloc (.cells #[.int .u8 97] TB (1, 2))).alloc (.cells #[.int .u8 98] TB (1, 2))
  have HA := Lib.hid hA
  have HB' := Lib.hid hB
  clear hA hB
  go_wp2_with fail
  refine (HC2.out _ _ _ HA.out HB'.out).mono ?_
  rintro e w6 ⟨rfl, hb⟩
  have hE := hE.step hb
  clear hb k1 k2 HA HB'
  have k1 := kc w6 #[.int .u8 97] 1 1
  have k2 := kc (w6.alloc (.cells #[.int .u8 97] TB (1, 2))) #[.int .u8 98] 1 1
  have hA : Bs ((w6.alloc (.cells #[.int .u8 97] TB (1, 2))).alloc (.cells #[.int .u8 98] TB (1, 2))) (some ⟨w6.heap.size, 0, none⟩) 1 1 [97] := (Bs.lit w6 97).alloc _
  have hB : Bs ((w6.alloc (.cells #[.int .u8 97] TB (1, 2))).alloc (.cells #[.int .u8 98] TB (1, 2))) (some ⟨(w6.alloc (.cells #[.int .u8 97] TB (1, 2))).heap.size, 0, none⟩) 1 1 [98] := Bs.lit _ 98
  simp only [size_al] at k2 hB
  have hE := (hE.alloc (.cells #[.int .u8 97] TB (1, 2))).alloc (.cells #[.int .u8 98] TB (1, 2))
  have HA := Lib.hid hA
  have HB' := Lib.hid hB
  clear hA hB
  go_wp2_with fail
  refine (HC3.out _ _ _ HA.out HB'.out).mono ?_
  rintro e w7 ⟨rfl, hb⟩
  have hE := hE.step hb
  clear hb k1 k2 HA HB'
  go_wp2_with fail
  go_ret
  exact ⟨rfl, hE.1⟩
end Go.Proofs.Ytdglhonogopciaa
