/- segment.Row and segment.Seal. -/
import Derived.Test.YtdglhonogopciaaWUse
import Derived.Test.YtdglhonogopciaaShaOf
import Derived.Test.YtdglhonogopciaaStr
namespace Go.Proofs.Ytdglhonogopciaa
open Go.RowKit

theorem whole_any (a : Option Addr) (cap : Nat) (w : World) :
    Calls Try.prog 24 #[.slice a 32 cap] w fun e w' => e = .returned (.slice a 32 cap) ∧ w = w' := by
  go_enter Try.func24, Try.ntmps24
  go_wp2
  go_ret
  exact ⟨rfl, rfl⟩

/-- a head's bytes, as its seal hashes them -/
def hdRow (i f c : Nat) (P R : List UInt8) : List UInt8 := be 2 1 ++ (be i 2 ++ (be f 8 ++ (be c 2 ++ (P ++ R))))
def hdCells (i f c : Nat) (n : Int) (pa : Option Addr) (pc : Nat) (ra : Option Addr) (rc : Nat) : Array Value := #[.int .i64 (i : Int), .int .u64 (f : Int), .int .i64 (c : Int), .int .i64 n, .slice pa 32 pc, .slice ra 32 rc]

set_option maxRecDepth 100000 in
set_option maxHeartbeats 1000000 in
theorem segrow_any (i f c : Nat) (n : Int) (pa ra : Option Addr) (pc rc : Nat) (P R : List UInt8) (w : World) (hi : i ≤ 65535) (hc : c ≤ 65535) (hP : Bs w pa 32 pc P) (hR : Bs w ra 32 rc R) :
    Calls Try.prog 12 #[.agg (hdCells i f c n pa pc ra rc)] w fun e w' => ∃ v, e = .returned v ∧ Own w' w.heap.size v (hdRow i f c P R) ∧ Below w.heap.size w w' := by
  have hPl := hP.1
  have hRl := hR.1
  have HP := Lib.hid hP
  have HR := Lib.hid hR
  clear hP hR
  unfold hdCells
  obtain ⟨w0, hw0⟩ : ∃ w0, w0 = w.alloc (.cells #[.int .i64 (i : Int), .int .u64 (f : Int), .int .i64 (c : Int), .int .i64 n, .slice pa 32 pc, .slice ra 32 rc] 25) := ⟨_, rfl⟩
  have hb : Below w.heap.size w w0 := by rw [hw0]; exact (Below.refl _ _).alloc (Nat.le_refl _) _
  have hE0 : Ext w.heap.size w w0 := (Ext.refl w).step hb
  have hlt : w.heap.size < w0.heap.size := by rw [hw0]; simp
  have hk : ∀ j, w0.cell? ⟨w.heap.size, j, none⟩ = (#[.int .i64 (i : Int), .int .u64 (f : Int), .int .i64 (c : Int), .int .i64 n, .slice pa 32 pc, .slice ra 32 rc] : Array Value)[j]? := fun j => by rw [hw0]; exact cell_new _ _ _ _
  have c0 : w0.cell? ⟨w.heap.size, 0, none⟩ = some (.int .i64 (i : Int)) := hk 0
  have c1 : w0.cell? ⟨w.heap.size, 1, none⟩ = some (.int .u64 (f : Int)) := hk 1
  have c2 : w0.cell? ⟨w.heap.size, 2, none⟩ = some (.int .i64 (c : Int)) := hk 2
  have c4 : w0.cell? ⟨w.heap.size, 4, none⟩ = some (.slice pa 32 pc) := hk 4
  have c5 : w0.cell? ⟨w.heap.size, 5, none⟩ = some (.slice ra 32 rc) := hk 5
  have HP0 := Lib.hid (HP.out.below hb)
  have HR0 := Lib.hid (HR.out.below hb)
  have HW0 := Lib.hid hw0
  clear hk hb hw0 HP HR
  go_enter Try.func12, Try.ntmps12
  go_upto_region 1 with fail
  rw [← HW0.out]
  obtain ⟨H, hH⟩ : ∃ H, H = w.heap.size := ⟨_, rfl⟩
  rw [← hH] at hE0 hlt c0 c1 c2 c4 c5 ⊢
  have HH := Lib.hid hH
  clear hH HW0
  go_wp2_with fail
  refine (wnew_any _).mono ?_
  rintro e w2 ⟨rfl, hW1, hb1⟩
  have hI2 : WI w0 w0.heap.size w0.heap.size w2 [] := ⟨(Ext.refl w0).step hb1, none, hW1⟩
  have HQ := Lib.hid (show ∃ q, q = w0.heap.size from ⟨_, rfl⟩)
  obtain ⟨q, hq⟩ := HQ.out
  have HQ := Lib.hid hq
  rw [← hq] at hI2 hlt ⊢
  clear hW1 hb1 hq
  go_wp2_with fail
  refine (wbyte_ok 2 hI2 (by omega) (by unfold big; decide)).mono ?_
  rintro e w3 ⟨rfl, hI3⟩
  have d0 := hI3.cell hlt c0
  clear hI2
  go_wp2_with fail
  refine (wshort_ok i hI3 (by omega) (by simp [be_length]; unfold big; decide)).mono ?_
  rintro e w4 ⟨rfl, hI4⟩
  have d1 := hI4.cell hlt c1
  clear d0 hI3
  go_wp2_with fail
  refine (wlong_ok f hI4 (by simp [be_length]; unfold big; decide)).mono ?_
  rintro e w5 ⟨rfl, hI5⟩
  have d2 := hI5.cell hlt c2
  clear d1 hI4
  go_wp2_with fail
  refine (wshort_ok c hI5 (by omega) (by simp [be_length]; unfold big; decide)).mono ?_
  rintro e w6 ⟨rfl, hI6⟩
  have d4 := hI6.cell hlt c4
  clear d2 hI5
  go_wp2_with fail
  refine (whole_any pa pc _).mono ?_
  rintro e w7 ⟨rfl, rfl⟩
  go_wp2_with fail
  refine (wraw_ok hI6 (hI6.1.bs HQ.out.symm HP0.out) (by simp [be_length]; unfold big; decide)).mono ?_
  rintro e w8 ⟨rfl, hI8⟩
  have d5 := hI8.cell hlt c5
  clear d4 hI6
  go_wp2_with fail
  refine (whole_any ra rc _).mono ?_
  rintro e w9 ⟨rfl, rfl⟩
  go_wp2_with fail
  refine (wraw_ok hI8 (hI8.1.bs HQ.out.symm HR0.out) (by simp [be_length, hPl]; unfold big; decide)).mono ?_
  rintro e w10 ⟨rfl, hI10⟩
  clear d5 hI8
  obtain ⟨hE8, g, hW8⟩ := hI10
  go_wp2_with fail
  refine (wdone_any q q g _ _ hW8 (by simp [be_length, hPl, hRl]; unfold big; decide)).mono ?_
  rintro e w11 ⟨v, rfl, ho, hb9⟩
  go_wp2_with fail
  go_ret
  have hE9 := (hE0.to (hE8.1.mono (Nat.le_of_lt hlt))).step hb9
  rw [← HH.out]
  exact ⟨v, rfl, (by simpa [hdRow] using ho.weaken (hE0.to (hE8.1.mono (Nat.le_of_lt hlt))).2), hE9.1⟩

theorem hdRow_length (i f c : Nat) (P R : List UInt8) (hP : P.length = 32) (hR : R.length = 32) : (hdRow i f c P R).length = 77 := by simp [hdRow, be_length, hP, hR]

set_option maxRecDepth 100000 in
theorem segseal_any (i f c : Nat) (n : Int) (pa ra : Option Addr) (pc rc : Nat) (P R : List UInt8) (w : World) (hi : i ≤ 65535) (hc : c ≤ 65535) (hP : Bs w pa 32 pc P) (hR : Bs w ra 32 rc R) :
    Calls Try.prog 6 #[.agg (hdCells i f c n pa pc ra rc)] w fun e w' => ∃ v, e = .returned v ∧ Own w' w.heap.size v (sha (hdRow i f c P R)) ∧ Below w.heap.size w w' := by
  have hl := hdRow_length i f c P R hP.1 hR.1
  have HC := Lib.hid (fun w' (hb : Below w.heap.size w w') => segrow_any i f c n pa ra pc rc P R w' hi hc (hP.below hb) (hR.below hb))
  have HPl := Lib.hid hl
  have hE := (Ext.refl w).alloc (.cells #[.int .i64 (i : Int), .int .u64 (f : Int), .int .i64 (c : Int), .int .i64 n, .slice pa 32 pc, .slice ra 32 rc] 25)
  unfold hdCells at *
  clear hP hR hl
  go_enter Try.func6, Try.ntmps6
  go_wp2_with fail
  refine (HC.out _ hE.1).mono ?_
  rintro e w1 ⟨v, rfl, ho, hb1⟩
  obtain ⟨a1, c1, rfl, hB1⟩ := ho.bsn HPl.out
  have hE1 := hE.step hb1
  clear ho hb1 hE HC
  go_wp2_with fail
  refine (shasum_any a1 77 c1 _ _ hB1 (by omega)).mono ?_
  rintro e w2 ⟨v2, rfl, ho2, hb2⟩
  have hE2 := hE1.step hb2
  go_wp2_with fail
  go_ret
  exact ⟨_, rfl, ho2.weaken hE1.2, hE2.1⟩
end Go.Proofs.Ytdglhonogopciaa
