/- The law's own functions of chapter 19: same, read: true of whatever. -/
import Derived.Test.YtmedamofmlkccaaReadSuper
import Derived.Test.YtmedamofmlkccaaRefReadSuper
namespace Go.Proofs.Ytmedamofmlkccaa
open Go.RowKit

noncomputable def segA (s p g i : Int) : Int × Int := open Classical in if isPlan s p g ∧ 0 ≤ i ∧ i < g then (1 + 2 * p + i * 8, 0) else (0, 1)
noncomputable def ptA (s p g k : Int) : Int × Int := open Classical in if isPlan s p g ∧ 0 ≤ k ∧ k < 2 then (1 + k * p, 0) else (0, 1)
theorem not3 {P : Prop} {i g : Int} (h : ¬ (P ∧ 0 ≤ i ∧ i < g)) : ¬ P ∨ i < 0 ∨ g ≤ i := by
  rcases Classical.em P with hp | hp
  · right
    have : ¬ (0 ≤ i ∧ i < g) := fun h' => h ⟨hp, h'⟩
    omega
  · exact .inl hp
theorem seg_any (s p g i : Int) (w : World) : Calls Try.prog 76 #[.agg #[.int .i64 s, .int .i64 p, .int .i64 g], .int .i64 i] w fun e w' => e = .returned (.tuple #[.int .i64 (segA s p g i).1, .int .i64 (segA s p g i).2]) ∧ Below w.heap.size w w' := by
  unfold segA
  by_cases h : isPlan s p g ∧ 0 ≤ i ∧ i < g
  · rw [if_pos h]; exact segment_ok s p g i w h.1 h.2.1 h.2.2
  · rw [if_neg h]; exact segment_no s p g i w (not3 h)
theorem rseg_any (s p g i : Int) (w : World) : Calls Try.prog 77 #[.agg #[.int .i64 s, .int .i64 p, .int .i64 g], .int .i64 i] w fun e w' => e = .returned (.tuple #[.int .i64 (segA s p g i).1, .int .i64 (segA s p g i).2]) ∧ Below w.heap.size w w' := by
  unfold segA
  by_cases h : isPlan s p g ∧ 0 ≤ i ∧ i < g
  · rw [if_pos h]; exact rsegment_ok s p g i w h.1 h.2.1 h.2.2
  · rw [if_neg h]; exact rsegment_no s p g i w (not3 h)
theorem pt_any (s p g k : Int) (w : World) : Calls Try.prog 78 #[.agg #[.int .i64 s, .int .i64 p, .int .i64 g], .int .i64 k] w fun e w' => e = .returned (.tuple #[.int .i64 (ptA s p g k).1, .int .i64 (ptA s p g k).2]) ∧ Below w.heap.size w w' := by
  unfold ptA
  by_cases h : isPlan s p g ∧ 0 ≤ k ∧ k < 2
  · rw [if_pos h]; exact point_ok s p g k w h.1 h.2.1 h.2.2
  · rw [if_neg h]; exact point_no s p g k w (not3 h)
theorem rpt_any (s p g k : Int) (w : World) : Calls Try.prog 79 #[.agg #[.int .i64 s, .int .i64 p, .int .i64 g], .int .i64 k] w fun e w' => e = .returned (.tuple #[.int .i64 (ptA s p g k).1, .int .i64 (ptA s p g k).2]) ∧ Below w.heap.size w w' := by
  unfold ptA
  by_cases h : isPlan s p g ∧ 0 ≤ k ∧ k < 2
  · rw [if_pos h]; exact rpoint_ok s p g k w h.1 h.2.1 h.2.2
  · rw [if_neg h]; exact rpoint_no s p g k w (not3 h)

set_option maxRecDepth 100000 in
theorem law19_read (a : Option Addr) (len cap : Nat) (xs : List UInt8) (w : World) (h : Bs w a len cap xs) (hl : len ≤ big) :
    Calls Try.prog 52 #[.slice a len cap] w fun e w' => e = .returned (.bool true) ∧ Below w.heap.size w w' := by
  go_enter Try.func52, Try.ntmps52
  go_wp2_with fail
  refine (rsup_any a len cap xs w h hl).mono ?_
  rintro e w1 ⟨hv, hb1⟩
  have hE1 := (Ext.refl w).step hb1
  have h1 := h.below hb1
  have z0 : ((0 : Int) == 0) = true := rfl
  rcases hv with ⟨hok, v1, rfl, ho1⟩ | ⟨hno, rfl⟩
  · obtain ⟨a1, c1, rfl, hL1⟩ := ho1.bs
    have HOK := Lib.hid hok
    have HR := Lib.hid (fun w h => rrsup_any a len cap xs w h)
    have z1 : ((supN xs : Int) == (supN xs : Int)) = true := beq_self_eq_true _
    have z2 : ((strOf (supId xs)).toList == (strOf (supId xs)).toList) = true := beq_self_eq_true _
    generalize supN xs = N at *
    generalize supId xs = I at *
    clear hok
    go_wp2_with fail
    refine (HR.out _ h1).mono ?_
    rintro e w2 ⟨hv, hb2⟩
    have hE2 := hE1.step hb2
    rcases hv with ⟨_, v2, rfl, ho2⟩ | ⟨hno, _⟩
    · obtain ⟨a2, c2, rfl, hL2⟩ := ho2.bs
      have s1 := run_string (hL1.below hb2)
      have s2 := run_string hL2
      clear HR ho1 ho2 hb2 hL1 hL2 hE1 h1
      go_wp2_with fail
      go_ret
      exact ⟨rfl, hE2.1⟩
    · exact absurd HOK.out hno
  · have HNO := Lib.hid hno
    have HR := Lib.hid (fun w h => rrsup_any a len cap xs w h)
    clear hno
    go_wp2_with fail
    refine (HR.out _ h1).mono ?_
    rintro e w2 ⟨hv, hb2⟩
    have hE2 := hE1.step hb2
    rcases hv with ⟨hok, _⟩ | ⟨_, rfl⟩
    · exact absurd hok HNO.out
    · have s1 := run_string (Bs.nil w2)
      have z2 : ((strOf []).toList == (strOf []).toList) = true := beq_self_eq_true _
      clear HR hb2 hE1 h1
      go_wp2_with fail
      go_ret
      exact ⟨rfl, hE2.1⟩

set_option maxHeartbeats 1000000 in
set_option maxRecDepth 100000 in
theorem law19_same (s p g i : Int) (w : World) :
    Calls Try.prog 50 #[.agg #[.int .i64 s, .int .i64 p, .int .i64 g], .int .i64 i] w fun e w' => e = .returned (.bool true) ∧ Below w.heap.size w w' := by
  have H1 := Lib.hid (fun w => seg_any s p g i w)
  have H2 := Lib.hid (fun w => rseg_any s p g i w)
  have H3 := Lib.hid (fun w => pt_any s p g i w)
  have H4 := Lib.hid (fun w => rpt_any s p g i w)
  generalize segA s p g i = A at *
  generalize ptA s p g i = B at *
  obtain ⟨a1, a2⟩ := A
  obtain ⟨b1, b2⟩ := B
  simp only at H1 H2 H3 H4
  have z1 : (a1 == a1) = true := beq_self_eq_true _
  have z2 : (a2 == a2) = true := beq_self_eq_true _
  have z3 : (b1 == b1) = true := beq_self_eq_true _
  have z4 : (b2 == b2) = true := beq_self_eq_true _
  go_enter Try.func50, Try.ntmps50
  go_wp2_with fail
  refine (H1.out _).mono ?_
  rintro e w1 ⟨rfl, hb1⟩
  have hE1 := (((Ext.refl w).alloc (.cells #[.int .i64 s, .int .i64 p, .int .i64 g] 76)).alloc (.cells #[.int .i64 s, .int .i64 p, .int .i64 g] 79)).step hb1
  obtain ⟨hc1, hf1⟩ := bcell hb1
  have hz1 : w.heap.size + 1 < w1.heap.size := by have := hb1.size; simp at this; omega
  go_wp2_with fail
  refine (H2.out _).mono ?_
  rintro e w2 ⟨rfl, hb2⟩
  have hE2 := hE1.step hb2
  have hb2 := hb1.trans (hb2.mono hb1.size)
  clear hc1 hf1 hz1 hb1 hE1
  obtain ⟨hc1, hf1⟩ := bcell hb2
  have hz1 : w.heap.size + 1 < w2.heap.size := by have := hb2.size; simp at this; omega
  go_wp2_with fail
  refine (H3.out _).mono ?_
  rintro e w3 ⟨rfl, hb3⟩
  have hE3 := hE2.step hb3
  have hb3 := hb2.trans (hb3.mono hb2.size)
  clear hc1 hf1 hz1 hb2 hE2
  obtain ⟨hc1, hf1⟩ := bcell hb3
  have hz1 : w.heap.size + 1 < w3.heap.size := by have := hb3.size; simp at this; omega
  go_wp2_with fail
  refine (H4.out _).mono ?_
  rintro e w4 ⟨rfl, hb4⟩
  have hE4 := hE3.step hb4
  clear hc1 hf1 hz1 hb3 hE3 hb4 H1 H2 H3 H4
  go_wp2_with fail
  go_ret
  exact ⟨rfl, hE4.1⟩
end Go.Proofs.Ytmedamofmlkccaa
