/- The contract of record.Encode. -/
import Derived.Test.YtmjlndfkddacbaaRecord
namespace Go.Proofs.Ytmjlndfkddacbaa
open Go.RowKit

def recHead (kind seq : Nat) (body : List UInt8) : List UInt8 := be kind 1 ++ (be seq 8 ++ lenBytes body)
def recBytes (kind seq : Nat) (body : List UInt8) : List UInt8 := recHead kind seq body ++ be (crcMore 0 (recHead kind seq body)) 4
set_option maxRecDepth 100000 in
theorem recenc_ok (kind seq : Nat) (a : Option Addr) (len cap : Nat) (ys : List UInt8) (w : World) (h : Bs w a len cap ys) (hok : RecOk (kind : Int) seq len) :
    Calls Try.prog 19 #[.agg #[.int .i64 (kind : Int), .int .u64 (seq : Int), .slice a len cap]] w fun e w' => ∃ v, e = .returned (.tuple #[v, .int .i64 0]) ∧ Own w' w.heap.size v (recBytes kind seq ys) ∧ Below w.heap.size w w' := by
  have hl9 : len ≤ 900 := hok.2.1
  have hk : kind ≤ 2 := by have := hok.2.2; omega
  have HR := Lib.hid (recright_any (kind : Int) seq a len cap (w.alloc (.cells #[.int .i64 (kind : Int), .int .u64 (seq : Int), .slice a len cap] 27)))
  rw [decide_eq_true hok] at HR
  clear hok
  go_enter Try.func19, Try.ntmps19
  go_wp2_with fail
  refine HR.out.mono ?_
  rintro e w1 ⟨rfl, hb⟩
  have hE1 := ((Ext.refl w).alloc (.cells #[.int .i64 (kind : Int), .int .u64 (seq : Int), .slice a len cap] 27)).step hb
  have hlt : w.heap.size < w1.heap.size := Nat.lt_of_lt_of_le (size_alloc _ _) hb.size
  have c0 : w1.cell? ⟨w.heap.size, 0, none⟩ = some (.int .i64 (kind : Int)) := cell_new_below hb 0
  have c1 : w1.cell? ⟨w.heap.size, 1, none⟩ = some (.int .u64 (seq : Int)) := cell_new_below hb 1
  have c2 : w1.cell? ⟨w.heap.size, 2, none⟩ = some (.slice a len cap) := cell_new_below hb 2
  have hB1 := (h.alloc (.cells #[.int .i64 (kind : Int), .int .u64 (seq : Int), .slice a len cap] 27)).below hb
  clear hb h HR
  go_wp2_with fail
  refine (wnew_any w1).mono ?_
  rintro e w2 ⟨rfl, hW2, hb2⟩
  obtain ⟨p, hp⟩ : ∃ p, p = w1.heap.size := ⟨_, rfl⟩
  rw [← hp] at hW2 hlt ⊢
  have HP := Lib.hid hp
  have hI2 : WI w1 p p w2 [] := ⟨by rw [hp]; exact (Ext.refl w1).step hb2, none, hW2⟩
  clear hW2 hb2 hp
  have d0 := hI2.cell hlt c0
  go_wp2_with fail
  refine (wbyte_ok kind hI2 (by omega) (by unfold big; decide)).mono ?_
  rintro e w3 ⟨rfl, hI3⟩
  have d1 := hI3.cell hlt c1
  clear d0 hI2
  go_wp2_with fail
  refine (wlong_ok seq hI3 (by simp [be_length]; unfold big; decide)).mono ?_
  rintro e w4 ⟨rfl, hI4⟩
  have d2 := hI4.cell hlt c2
  clear d1 hI3
  go_wp2_with fail
  refine (wbytes_ok hI4 HP.out.symm hB1 (by simp [be_length]; unfold big; decide)).mono ?_
  rintro e w5 ⟨rfl, hI5⟩
  have e1 : [] ++ be kind 1 ++ be seq 8 ++ lenBytes ys = recHead kind seq ys := by simp [recHead]
  rw [e1] at hI5
  clear d2 hI4 e1
  have hXl : (recHead kind seq ys).length ≤ 2000 := by
    have := hB1.1
    simp only [recHead, List.length_append, be_length, lenBytes, List.length_take]; omega
  have HX := Lib.hid (show recBytes kind seq ys = recHead kind seq ys ++ be (crcMore 0 (recHead kind seq ys)) 4 from rfl)
  generalize recHead kind seq ys = X at *
  go_wp2_with fail
  refine (wdone_ok hI5 (by unfold big; omega)).mono ?_
  rintro e w6 ⟨a6, c6, rfl, _, hB6, hI6⟩
  clear hI5
  go_wp2_with fail
  refine (recsum_any _ _ _ _ _ hB6).mono ?_
  rintro e w7 ⟨v7, rfl, ho7, hb7⟩
  obtain ⟨a7, c7, rfl, hB7⟩ := ho7.bsn (n := 4) (be_length _ _)
  have hI7 := hI6.below hb7
  clear hI6 hB6 ho7
  go_wp2_with fail
  refine (wraw_ok hI7 hB7 (by unfold big; omega)).mono ?_
  rintro e w8 ⟨rfl, hI8⟩
  rw [← HX.out] at hI8
  have hZl : (recBytes kind seq ys).length ≤ 3000 := by rw [HX.out, List.length_append, be_length]; omega
  obtain ⟨Z, hZe⟩ : ∃ Z, Z = recBytes kind seq ys := ⟨_, rfl⟩
  rw [← hZe] at hI8 hZl
  have HZ := Lib.hid hZe
  clear hZe hB7 hI7
  go_wp2_with fail
  refine (wdone_ok hI8 (by unfold big; omega)).mono ?_
  rintro e w9 ⟨a9, c9, rfl, ho, hB9, hI9⟩
  go_wp2_with fail
  go_ret2
  have hEf := hE1.to (hI9.1.1.mono (by rw [HP.out]; exact hE1.2))
  exact ⟨.slice a9 Z.length c9, rfl, by rw [← HZ.out]; exact ho.base (hE1.to (hI8.1.1.mono (by rw [HP.out]; exact hE1.2))).2, hEf.1⟩
end Go.Proofs.Ytmjlndfkddacbaa
