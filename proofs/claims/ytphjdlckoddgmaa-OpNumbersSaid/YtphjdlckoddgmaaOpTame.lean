/- Contracts of permafrostkeep.Head, Name, Short, Tame, of the law's known. -/
import Derived.Test.YtphjdlckoddgmaaLaw15
import Derived.Test.YtphjdlckoddgmaaWithin
import Derived.Test.YtphjdlckoddgmaaCut
import Derived.Deep.DeepCutAuto
namespace Go.Proofs.Ytphjdlckoddgmaa
open Go.RowKit

theorem strOf_extract (xs : List UInt8) (n : Nat) : (strOf xs).extract 0 n = strOf (xs.take n) := by
  apply ByteArray.ext
  simp [strOf, ByteArray.data_extract]
theorem head_any (xs : List UInt8) (n : Nat) (hn : n ≤ 1000000) (w : World) : Calls Try.prog 24 #[.string (strOf xs), .int .i64 (n : Int)] w fun e w' => e = .returned (.string (strOf (xs.take n))) ∧ w = w' := by
  by_cases h : n < xs.length
  · have h1 : (n : Int) < ((strOf xs).size : Int) := by show (n : Int) < ((xs.length : Nat) : Int); omega
    go_enter Try.func24, Try.ntmps24
    go_wp2
    go_ret
    rw [← strOf_extract]
    exact ⟨rfl, rfl⟩
  · have h1 : ((strOf xs).size : Int) ≤ (n : Int) := by show ((xs.length : Nat) : Int) ≤ (n : Int); omega
    rw [List.take_of_length_le (by omega)]
    go_enter Try.func24, Try.ntmps24
    go_wp2
    go_ret
    exact ⟨rfl, rfl⟩

set_option maxHeartbeats 4000000 in
set_option maxRecDepth 100000 in
theorem law15_known (w : World) : Calls Try.prog 16 #[] w fun e w' => e = .returned (.bool true) ∧ Below w.heap.size w w' := by
  go_enter Try.func16, Try.ntmps16
  go_wp2_with fail
  refine (openc_any 14 [100, 111, 101, 115, 32, 110, 111, 116, 32, 109, 97, 116, 116, 101, 114] [] 0 0 0 0 0 none 0 0 [] w (Bs.nil w)).mono ?_
  have hE : opEnc ⟨14, [100, 111, 101, 115, 32, 110, 111, 116, 32, 109, 97, 116, 116, 101, 114], [], 0, 0, 0, 0, 0, []⟩ = ([14], 0) := by rfl
  rw [hE]
  clear hE
  rintro e w1 ⟨v1, rfl, ho1, hb1⟩
  obtain ⟨a1, m1, rfl, hL1⟩ := ho1.bsn (n := 1) rfl
  have hE1 := (Ext.refl w).step hb1
  clear ho1 hb1
  go_wp2_with fail
  refine (opdec_any none 0 0 [] w1 (Bs.nil _) (by unfold big; decide)).mono ?_
  have hD : opDec [] = (zeroOv, 30) := by rfl
  unfold DecPost
  rw [hD]
  clear hD
  rintro e w2 ⟨⟨v2, rfl, ho2⟩, hb2⟩
  obtain ⟨a2, m2, rfl, hL2⟩ := ho2.bsn (n := 0) rfl
  have hE2 := hE1.step hb2
  have hs := fun (C : Array Value) (t : TypeId) => run_string ((hL1.below hb2).alloc (.cells C t))
  have hz : ((strOf [14]).toList == ([14] : List UInt8)) = true := by rw [strOf_toList]; rfl
  clear ho2 hb2 hE1 hL1 hL2
  unfold opCells zeroOv
  simp only
  go_wp2_with fail
  go_ret
  exact ⟨rfl, (hE2.alloc _).1⟩
def names14 : Array Value := #[.string ⟨#[47, 97]⟩, .string ⟨#[47, 98]⟩, .string ⟨#[47, 99]⟩, .string ⟨#[47, 97, 47, 97]⟩, .string ⟨#[47, 97, 47, 98]⟩, .string ⟨#[47, 98, 47, 97]⟩, .string ⟨#[47, 98, 47, 98, 47, 97]⟩, .string ⟨#[47]⟩, .string ⟨#[47, 99, 47, 97]⟩, .string ⟨#[47, 98, 47, 98]⟩, .string ⟨#[47, 65]⟩, .string ⟨#[97]⟩, .string ⟨#[47, 97, 47, 47, 98]⟩, .string ⟨#[47, 97, 47]⟩]
theorem names14_at (i : Nat) (hi : i < 14) : ∃ xs, names14[i]? = some (.string (strOf xs)) ∧ xs.length ≤ 10 := by
  have h : i = 0 ∨ i = 1 ∨ i = 2 ∨ i = 3 ∨ i = 4 ∨ i = 5 ∨ i = 6 ∨ i = 7 ∨ i = 8 ∨ i = 9 ∨ i = 10 ∨ i = 11 ∨ i = 12 ∨ i = 13 := by omega
  rcases h with rfl | rfl | rfl | rfl | rfl | rfl | rfl | rfl | rfl | rfl | rfl | rfl | rfl | rfl <;> exact ⟨_, rfl, by decide⟩
theorem name_any (n : Int) (w : World) : Calls Try.prog 28 #[.int .i64 n] w fun e w' => (∃ xs, e = .returned (.string (strOf xs)) ∧ xs.length ≤ 10) ∧ Below w.heap.size w w' := by
  go_enter Try.func28, Try.ntmps28
  go_wp2_with fail
  refine (within_any n 0 1048576 _ (by decide) (by decide) (by decide)).mono ?_
  rintro e w1 ⟨rfl, rfl⟩
  have hw := within_bd n 0 1048576 (by decide)
  generalize within n 0 1048576 = m at *
  obtain ⟨i, hi, hi14⟩ : ∃ i : Nat, m.tmod 14 = (i : Int) ∧ i < 14 := ⟨(m.tmod 14).toNat, by have := tmod_bd m 14 (by decide); have := tmod_pos m 14 (by decide) (by rw [Int.tmod_eq_emod]; split <;> omega); omega, by have := tmod_bd m 14 (by decide); omega⟩
  obtain ⟨xs, hx, hxl⟩ : ∃ xs, (w.alloc (.cells names14 9)).cell? ⟨w.heap.size, i, none⟩ = some (.string (strOf xs)) ∧ xs.length ≤ 10 := by
    rw [cell_new]
    exact names14_at i hi14
  unfold names14 at hx
  have g1 : (0 : Int) ≤ (i : Int) := by omega
  have g2 : (i : Int) < 14 := by omega
  clear hw
  go_wp2_with fail
  go_ret
  exact ⟨⟨xs, rfl, hxl⟩, ((Ext.refl w).alloc _).1⟩
end Go.Proofs.Ytphjdlckoddgmaa
