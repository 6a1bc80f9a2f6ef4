/- The contract of layout.ReadSuper. -/
import Derived.Test.YtmedamofmlkccaaSuper
import Derived.Test.YtmedamofmlkccaaEqual
namespace Go.Proofs.Ytmedamofmlkccaa
open Go.RowKit

/-- the size and the id that a sector's bytes tell -/
def supN (xs : List UInt8) : Nat := (rdShort (rdShort (rdRaw (xs, 0) 4).2).2).1
def supId (xs : List UInt8) : List UInt8 := (rdRaw (rdShort (rdShort (rdRaw (xs, 0) 4).2).2).2 16).1
def SupOk (xs : List UInt8) : Prop := 64 ≤ supN xs ∧ supN xs ≤ 4096 ∧ (supId xs).length = 16 ∧ supBytes (supN xs) (supId xs) = xs
set_option maxRecDepth 100000 in
theorem rsup_any (a : Option Addr) (len cap : Nat) (xs : List UInt8) (w : World) (h : Bs w a len cap xs) (hl : len ≤ big) :
    Calls Try.prog 46 #[.slice a len cap] w fun e w' => ((SupOk xs ∧ ∃ v, e = .returned (.tuple #[.int .i64 (supN xs : Int), v, .int .i64 0]) ∧ Own w' w.heap.size v (supId xs)) ∨
      (¬ SupOk xs ∧ e = .returned (.tuple #[.int .i64 0, .slice none 0 0, .int .i64 41]))) ∧ Below w.heap.size w w' := by
  have hxl := h.1
  have hb0 : xs.length ≤ big := by omega
  go_enter Try.func46, Try.ntmps46
  go_wp2_with fail
  refine (rnew_any a len cap xs _ h hl).mono ?_
  rintro e w1 ⟨q, rb, rfl, hR, hb1⟩
  have hE1 := (Ext.refl w).step hb1
  have l1 : (rdRaw (xs, 0) 4).2.1.length ≤ big := Nat.le_trans (rdRaw_left (xs, 0) 4) hb0
  have hC1 := Lib.hid (rraw_any w.heap.size q rb xs 0 4 w1 hR hb0)
  have HS : Hid (supN xs = (rdShort (rdShort (rdRaw (xs, 0) 4).2).2).1 ∧ supId xs = (rdRaw (rdShort (rdShort (rdRaw (xs, 0) 4).2).2).2 16).1) := Lib.hid ⟨rfl, rfl⟩
  generalize (rdRaw (xs, 0) 4).1 = y1 at *
  generalize (rdRaw (xs, 0) 4).2 = s1 at *
  have l2 : (rdShort s1).2.1.length ≤ big := Nat.le_trans (rdRaw_left s1 2) l1
  have hC2 := Lib.hid (fun B w h => rshort_any B q rb s1 w h l1)
  generalize (rdShort s1).1 = y2 at *
  generalize (rdShort s1).2 = s2 at *
  have l3 : (rdShort s2).2.1.length ≤ big := Nat.le_trans (rdRaw_left s2 2) l2
  have hv3 := rdShort_lt s2
  have hC3 := Lib.hid (fun B w h => rshort_any B q rb s2 w h l2)
  generalize (rdShort s2).1 = n at *
  generalize (rdShort s2).2 = s3 at *
  have hC4 := Lib.hid (fun B w h => rraw_any B q rb s3.1 s3.2 16 w h l3)
  clear l1 l2 l3 hb0
  go_wp2_with fail
  refine hC1.out.mono ?_
  rintro e w2 ⟨v1, rfl, ho1, hP⟩
  obtain ⟨hE2, hR2⟩ := hE1.next hP
  clear hP hE1 hR ho1 hC1
  go_wp2_with fail
  refine (hC2.out _ _ hR2).mono ?_
  rintro e w3 ⟨rfl, hP⟩
  obtain ⟨hE3, hR3⟩ := hE2.next hP
  clear hP hE2 hR2 hC2
  go_wp2_with fail
  refine (hC3.out _ _ hR3).mono ?_
  rintro e w4 ⟨rfl, hP⟩
  obtain ⟨hE4, hR4⟩ := hE3.next hP
  clear hP hE3 hR3 hC3
  go_wp2_with fail
  refine (hC4.out _ _ hR4).mono ?_
  rintro e w5 ⟨vi, rfl, hoi, hP⟩
  obtain ⟨hE5, hR5⟩ := hE4.next hP
  have hz4 := hE4.2
  clear hP hE4 hR4 hC4
  obtain ⟨hSn, hSi⟩ := HS.out
  rw [show rdRaw (s3.1, s3.2) 16 = rdRaw s3 16 from rfl, ← hSi] at hoi
  have hOB := hoi.base hz4
  obtain ⟨ai, ci, rfl, hBi⟩ := hoi.bs
  have hb5 := hE5.1
  have hx5 := h.below hb5
  by_cases hc : 64 ≤ n ∧ n ≤ 4096 ∧ (supId xs).length = 16
  · obtain ⟨c1, c2, c3⟩ := hc
    have HOB := Lib.hid hOB
    have HSI := Lib.hid hSi
    rw [c3] at hBi
    have HSU := Lib.hid (super_ok n ai ci (supId xs) w5 hBi c1 c2)
    obtain ⟨r, hr⟩ : ∃ r, r = decide (supBytes n (supId xs) = xs) := ⟨_, rfl⟩
    have hok : SupOk xs ↔ r = true := by
      rw [hr, decide_eq_true_iff]; unfold SupOk; rw [hSn]
      exact ⟨fun h => h.2.2.2, fun h => ⟨c1, c2, c3, h⟩⟩
    have HOK := Lib.hid hok
    have HSN := Lib.hid hSn
    clear hoi hR5 hOB hSi hSn hok
    go_wp2_with fail
    refine HSU.out.mono ?_
    rintro e w6 ⟨v6, rfl, ho6, hb6⟩
    obtain ⟨a6, c6, rfl, hB6⟩ := ho6.bs
    have hEq := equal_any a6 a _ len c6 cap _ xs w6 hB6 (hx5.below hb6)
    rw [← hr] at hEq
    have HEQ := Lib.hid hEq
    clear hr hEq hB6 ho6
    go_wp2_with fail
    refine HEQ.out.mono ?_
    rintro e w7 ⟨rfl, hb7⟩
    have hEz := ((hE5.step hb6).step hb7).1
    cases r
    · go_wp2_with fail
      refine bodyPost_ret (v := .tuple #[.int .i64 0, .slice none 0 0, .int .i64 41]) (by simp [results, Try.results46, go_sem]) rfl ⟨.inr ⟨by simpa using HOK.out, rfl⟩, hEz⟩
    · go_wp2_with fail
      have hO7 := (HOB.out.below hb6).below hb7
      rw [c3] at hO7
      refine bodyPost_ret (v := .tuple #[.int .i64 (n : Int), .slice ai 16 ci, .int .i64 0]) (by simp [results, Try.results46, go_sem]) rfl ⟨.inl ⟨by simpa using HOK.out, _, by rw [HSN.out], hO7⟩, hEz⟩
  · have hno : ¬ SupOk xs := fun h => hc (by unfold SupOk at h; rw [hSn] at h; exact ⟨h.1, h.2.1, h.2.2.1⟩)
    have HNO := Lib.hid hno
    have HSU := Lib.hid (super_no (n : Int) ai (supId xs).length ci w5 (by omega))
    clear hc hno hOB hoi hSi hSn hBi hR5
    go_wp2_with fail
    refine HSU.out.mono ?_
    rintro e w6 ⟨rfl, hb6⟩
    go_wp2_with fail
    refine bodyPost_ret (v := .tuple #[.int .i64 0, .slice none 0 0, .int .i64 41]) (by simp [results, Try.results46, go_sem]) rfl ⟨.inr ⟨HNO.out, rfl⟩, (hE5.step hb6).1⟩
end Go.Proofs.Ytmedamofmlkccaa
