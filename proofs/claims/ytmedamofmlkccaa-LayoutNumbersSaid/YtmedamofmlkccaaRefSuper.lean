/- Contracts of the document's Super of chapter 19. -/
import Derived.Test.YtmedamofmlkccaaLayRef
import Derived.Test.YtmedamofmlkccaaSuperLaw
import Derived.Test.YtmedamofmlkccaaCrcRef
import Derived.Test.YtmedamofmlkccaaRef4
import Derived.Test.YtmedamofmlkccaaAZ
import Derived.Test.YtmedamofmlkccaaStr
import Derived.Deep.DeepCutAuto
namespace Go.Proofs.Ytmedamofmlkccaa
open Go.RowKit

theorem be_split (c : Nat) : be c 4 = be (c / 65536) 2 ++ be c 2 := by
  simp only [be, Nat.div_div_eq_div_mul, List.cons_append, List.nil_append]
set_option maxHeartbeats 2000000 in
set_option maxRecDepth 100000 in
theorem rsuper_ok (n : Nat) (a : Option Addr) (cap : Nat) (id : List UInt8) (w : World) (h : Bs w a 16 cap id) (h1 : 64 ≤ n) (h2 : n ≤ 4096) :
    Calls Try.prog 51 #[.int .i64 (n : Int), .slice a 16 cap] w fun e w' => ∃ v, e = .returned (.tuple #[v, .int .i64 0]) ∧ Own w' w.heap.size v (supBytes n id) ∧ Below w.heap.size w w' := by
  have hil := h.1
  obtain ⟨B, hBw⟩ : ∃ B, B = w.heap.size := ⟨_, rfl⟩
  have HBW := Lib.hid hBw
  go_enter Try.func51, Try.ntmps51
  go_wp2_with fail
  refine (rof_ok n _ (by omega) (by omega)).mono ?_
  rintro e w1 ⟨rfl, hb1⟩
  have hE1 := (Ext.refl w).step hb1
  have hB1 := h.below hb1
  rw [← hBw] at hE1
  clear hBw
  generalize hsg : seg (n : Int) = sg
  clear hsg
  have hE2 := hE1.alloc (.cells #[.int .i64 (n : Int), .int .i64 ((n : Int) / 4), .int .i64 sg] 79)
  have hB2 := hB1.alloc (.cells #[.int .i64 (n : Int), .int .i64 ((n : Int) / 4), .int .i64 sg] 79)
  go_upto_region 2 with fail
  generalize w1.alloc (.cells #[.int .i64 (n : Int), .int .i64 ((n : Int) / 4), .int .i64 sg] 79) = w2 at *
  clear hE1 hB1 hb1 h
  have kc := fun (w : World) (C : Array Value) (n c : Nat) => Lib.run_convert_bytes_const (P := Try.prog) w 26 5 C n c Try.underlying26 Try.underlying5
  have hm := Bs.newRow w2 #[.int .u8 87, .int .u8 79, .int .u8 82, .int .u8 77] TB (4, 5) 4 4 [87, 79, 82, 77] rfl (by omega) (by simp [maxLen]) rfl
  have hE3 := hE2.alloc (.cells #[.int .u8 87, .int .u8 79, .int .u8 82, .int .u8 77] TB (4, 5))
  have hB3 := hB2.alloc (.cells #[.int .u8 87, .int .u8 79, .int .u8 82, .int .u8 77] TB (4, 5))
  go_wp2_with fail
  refine (ref_short _ 4 4 _ 1 _ hm (by unfold big; decide)).mono ?_
  rintro e w4 ⟨v4, rfl, ho4, hb4⟩
  have hE4 := hE3.step hb4
  have hB4 := hB3.below hb4
  obtain ⟨a4, c4, rfl, hL4⟩ := ho4.bsn (n := 6) (by simp [be_length])
  clear hm hE2 hB2 hE3 hB3 hb4 ho4 kc
  go_wp2_with fail
  refine (ref_short _ 6 _ _ n _ hL4 (by unfold big; decide)).mono ?_
  rintro e w5 ⟨v5, rfl, ho5, hb5⟩
  have hE5 := hE4.step hb5
  have hB5 := hB4.below hb5
  have ho5 := ho5.base hE4.2
  clear hE4 hB4 hb5 hL4
  go_wp2_with (at_builtin; refine wpList_append_bytes rfl _ _ rfl B v5 _ rfl ho5 a 16 cap id rfl hB5 ?h3 hE5.2 ?hk)
  case h3 => simp [be_length]
  intro v6 w6 ho6 hg6 _
  have hE6 := hE5.grown hg6 ho5.blk
  change Own w6 B v6 (supHead n id) at ho6
  have hSl : (supHead n id).length = 24 := supHead_length n id hil
  have HX := Lib.hid (show supBytes n id = supHead n id ++ supTail (crcMore 0 (supHead n id)) from rfl)
  generalize supHead n id = X at *
  obtain ⟨a6, c6, rfl, hL6⟩ := ho6.bsn hSl
  clear hE5 hg6 ho5 hB5 ho6
  go_wp2_with fail
  refine (refsum_any a6 24 c6 X w6 hL6).mono ?_
  rintro e w7 ⟨rfl, rfl⟩
  have hc := crcMore_lt 0 X
  generalize crcMore 0 X = c at *
  go_wp2_with fail
  refine (ref_sum4 a6 24 c6 X c w6 hL6 (by unfold big; decide) hc).mono ?_
  rintro e w7 ⟨v7, rfl, ho7, hb7⟩
  have hE7 := hE6.step hb7
  have ho7 := ho7.base hE6.2
  have hl28 : (X ++ be c 4).length = 28 := by simp [be_length, hSl]
  obtain ⟨g, cg, rfl, hg, hRow⟩ : ∃ g cg, v7 = .slice (some ⟨g, 0, none⟩) (X ++ be c 4).length cg ∧ B ≤ g ∧ Row w7 g cg (X ++ be c 4) := by
    rcases ho7.parts with ⟨_, h2⟩ | ⟨g, c, h1, h2, h3⟩
    · rw [h2] at hl28; simp at hl28
    · exact ⟨g, c, h1, h2, h3⟩
  have hfin : X ++ be c 4 ++ List.replicate 100 0 = X ++ supTail c := by unfold supTail; rw [be_split]; simp
  have HF := Lib.hid hfin
  generalize X ++ be c 4 = Y at *
  have HL := Lib.hid hl28
  rw [hl28]
  clear hL6 hE6 hb7 ho7 hfin hl28
  go_upto_region 6 with fail
  iterate 13 go_step
  refine wpList_append_zeros rfl _ _ rfl B g cg Y 28 100 HL.out rfl rfl hRow hg hE7.2 (by decide) (by decide) ?_
  intro v8 w8 ho8 hg8
  have hE8 := hE7.grown hg8 (fun k hk => by cases hk; exact hg)
  go_wp2_with fail
  go_ret2
  rw [← HBW.out]
  exact ⟨v8, rfl, by rw [HX.out, ← HF.out]; exact ho8, hE8.1⟩
set_option maxRecDepth 100000 in
theorem rsuper_no (n : Int) (a : Option Addr) (len cap : Nat) (w : World) (h : n < 64 ∨ 4096 < n ∨ len ≠ 16) :
    Calls Try.prog 51 #[.int .i64 n, .slice a len cap] w fun e w' => e = .returned (.tuple #[.slice none 0 0, .int .i64 1]) ∧ Below w.heap.size w w' := by
  by_cases hn : n < 64 ∨ 4096 < n
  · go_enter Try.func51, Try.ntmps51
    go_wp2_with fail
    refine (rof_bad n _ hn).mono ?_
    rintro e w1 ⟨rfl, hb1⟩
    go_wp2_with fail
    go_ret2
    exact ⟨rfl, (((Ext.refl w).step hb1).alloc _).1⟩
  · have hl : ((len : Int) != 16) = true := by rw [bne_iff_ne]; omega
    go_enter Try.func51, Try.ntmps51
    go_wp2_with fail
    refine (rof_ok n _ (by omega) (by omega)).mono ?_
    rintro e w1 ⟨rfl, hb1⟩
    go_wp2_with fail
    go_ret2
    exact ⟨rfl, (((Ext.refl w).step hb1).alloc _).1⟩
end Go.Proofs.Ytmedamofmlkccaa
