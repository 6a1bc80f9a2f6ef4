/- The contract of permafrostkeep.Sized. -/
import Derived.Test.YtdglhonogopciaaMem
import Derived.Test.YtdglhonogopciaaCut
import Derived.Test.YtdglhonogopciaaStr
namespace Go.Proofs.Ytdglhonogopciaa
open Go.RowKit

def sizedOf (n : Nat) (xs : List UInt8) : List UInt8 := xs.take n ++ List.replicate (n - min xs.length n) 0
theorem sizedOf_length (n : Nat) (xs : List UInt8) : (sizedOf n xs).length = n := by simp [sizedOf]; omega
set_option maxRecDepth 100000 in
theorem sized_any (n : Nat) (a : Option Addr) (len cap : Nat) (xs : List UInt8) (w : World) (h : Bs w a len cap xs) (hn : n ≤ 1000000) :
    Calls Try.prog 5 #[.slice a len cap, .int .i64 (n : Int)] w fun e w' => ∃ v, e = .returned v ∧ Own w' w.heap.size v (sizedOf n xs) ∧ Below w.heap.size w w' := by
  have hlen := h.1
  have hlc := h.2.1
  have hT := h.take (k := min len n) (by omega)
  have hTl : xs.take (min len n) = xs.take n := by rw [← hlen]; exact List.take_eq_take_iff.2 (by omega)
  rw [hTl] at hT
  obtain ⟨m, hm⟩ : ∃ m, m = min len n := ⟨_, rfl⟩
  have hmn : m ≤ n := by omega
  rw [← hm] at hT
  have HM := Lib.hid hm
  have hC : ∀ W, Calls Try.prog 10 #[.slice a len cap, .int .i64 (n : Int)] W fun e w' => e = .returned (.slice a m cap) ∧ W = w' := fun W => by rw [hm]; exact cut_any n a len cap W hlc (by omega)
  have HC := Lib.hid hC
  clear hm hC h hTl
  obtain ⟨H, hH⟩ : ∃ H, H = w.heap.size := ⟨_, rfl⟩
  have HH := Lib.hid hH
  have hE0 := (Ext.refl w).alloc (.cells #[] TB)
  have hO : Own (w.alloc (.cells #[] TB)) w.heap.size (.slice (some ⟨w.heap.size, 0, none⟩) 0 0) [] := Own.of_row (Row.made w #[] 0 0 [] rfl rfl (by omega) (by simp [maxLen]) rfl) (Nat.le_refl _)
  have hT1 := hT.alloc (.cells #[] TB)
  clear hH
  go_enter Try.func5, Try.ntmps5
  go_wp2_with fail
  refine (HC.out _).mono ?_
  rintro e w1 ⟨rfl, rfl⟩
  go_wp2_with (at_builtin; refine wpList_append_bytes rfl _ _ rfl w.heap.size _ [] rfl hO a m cap (xs.take n) rfl hT1 (by simp; omega) (by simp) ?_)
  intro v' w2 hown hg _
  have hE2 := hE0.grown hg (fun k hk => by simp [Value.ownBlock] at hk; omega)
  go_wp2_with fail
  have hxt : (xs.take n).length = m := hT.1
  go_loopw [5] (fun x wr => ∃ (k : Nat) (a1 : Option Addr) (c1 : Nat), m ≤ k ∧ k ≤ n ∧ x = .slice a1 k c1 ∧ Own wr w.heap.size (.slice a1 k c1) (xs.take n ++ List.replicate (k - m) 0) ∧ Ext w.heap.size w wr)
    (fun x _ => n - match x with | .slice _ l _ => l | _ => 0)
  case atStart =>
    obtain ⟨a1, c1, rfl, _⟩ := hown.bsn hxt
    exact ⟨m, a1, c1, Nat.le_refl _, hmn, rfl, by simpa using hown, hE2⟩
  case round =>
    obtain ⟨k, a1, c1, hmk, hkn, rfl, hO1, hE1⟩ := hrel
    have HO1 := Lib.hid hO1
    have hkl : (xs.take n ++ List.replicate (k - m) (0 : UInt8)).length = k := by rw [List.length_append, hxt, List.length_replicate]; omega
    have HKL := Lib.hid hkl
    clear hO1 hkl hown hO
    by_cases hlt : k < n
    · have hB1 := Bs.newRow wr #[.int .u8 0] TB (0, 0) 1 1 [0] rfl (by omega) (by simp [maxLen]) rfl
      go_wp2_with (at_builtin; refine wpList_append_bytes rfl _ _ rfl w.heap.size _ _ rfl (HO1.out.alloc (.cells #[.int .u8 0] TB)) _ 1 1 [0] rfl hB1 (by rw [HKL.out]; omega) (by have := hE1.2; simp; omega) ?_)
      intro v3 w3 hown3 hg3 _
      have hE3 := (hE1.alloc (.cells #[.int .u8 0] TB)).grown hg3 (fun j hj => by
        rcases HO1.out.parts with ⟨h1, _⟩ | ⟨g, c, h1, h2, _⟩
        · simp at h1; rw [h1.1] at hj; simp [Value.ownBlock] at hj
        · simp at h1; rw [h1.1] at hj; simp [Value.ownBlock] at hj; omega)
      obtain ⟨a3, c3, rfl, _⟩ := hown3.bsn (n := k + 1) (by have := HKL.out; simp only [List.length_append, List.length_cons, List.length_nil] at *; omega)
      go_wp2_with fail
      go_roundw
      case rel =>
        refine ⟨k + 1, a3, c3, by omega, by omega, rfl, ?_, hE3⟩
        rw [show k + 1 - m = (k - m) + 1 by omega, List.replicate_succ']
        exact hown3
      case measure => simp only; omega
    · obtain rfl : k = n := by omega
      go_wp2_with fail
      go_ret
      refine ⟨_, rfl, ?_, hE1.1⟩
      have := HO1.out
      rw [HM.out, ← hlen] at this
      exact this
end Go.Proofs.Ytdglhonogopciaa
