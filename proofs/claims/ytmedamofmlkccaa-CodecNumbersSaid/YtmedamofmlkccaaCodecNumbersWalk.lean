/- The walk of CodecNumbers. -/
import Derived.Test.YtmedamofmlkccaaCodecGet
import Derived.Test.YtmedamofmlkccaaCodecKnown
import Derived.Deep.DeepCutAuto
namespace Go.Proofs.Ytmedamofmlkccaa
open Go.RowKit

set_option maxRecDepth 100000 in
theorem codec_lits (w : World) (i : Nat) (hi : i < 9) : ∃ a len xs, (((((((((w.alloc (.cells #[.int .u8 0] TB)).alloc (.cells #[.int .u8 1] TB)).alloc (.cells #[.int .u8 2] TB)).alloc (.cells #[.int .u8 0, .int .u8 3, .int .u8 1, .int .u8 2] TB)).alloc (.cells #[.int .u8 0, .int .u8 3, .int .u8 1, .int .u8 2, .int .u8 3] TB)).alloc (.cells #[.int .u8 1, .int .u8 2, .int .u8 3, .int .u8 4, .int .u8 5, .int .u8 6, .int .u8 7] TB)).alloc (.cells #[.int .u8 1, .int .u8 2, .int .u8 3, .int .u8 4, .int .u8 5, .int .u8 6, .int .u8 7, .int .u8 8] TB)).alloc (.cells #[.int .u8 255, .int .u8 255, .int .u8 1] TB)).alloc (.cells #[.slice none 0 0, .slice (some ⟨w.heap.size, 0, none⟩) 1 1, .slice (some ⟨w.heap.size + 1, 0, none⟩) 1 1, .slice (some ⟨w.heap.size + 2, 0, none⟩) 1 1, .slice (some ⟨w.heap.size + 3, 0, none⟩) 4 4, .slice (some ⟨w.heap.size + 4, 0, none⟩) 5 5, .slice (some ⟨w.heap.size + 5, 0, none⟩) 7 7, .slice (some ⟨w.heap.size + 6, 0, none⟩) 8 8, .slice (some ⟨w.heap.size + 7, 0, none⟩) 3 3] 26)).cell? ⟨w.heap.size + 8, i, none⟩ = some (.slice a len len) ∧ Bs (((((((((w.alloc (.cells #[.int .u8 0] TB)).alloc (.cells #[.int .u8 1] TB)).alloc (.cells #[.int .u8 2] TB)).alloc (.cells #[.int .u8 0, .int .u8 3, .int .u8 1, .int .u8 2] TB)).alloc (.cells #[.int .u8 0, .int .u8 3, .int .u8 1, .int .u8 2, .int .u8 3] TB)).alloc (.cells #[.int .u8 1, .int .u8 2, .int .u8 3, .int .u8 4, .int .u8 5, .int .u8 6, .int .u8 7] TB)).alloc (.cells #[.int .u8 1, .int .u8 2, .int .u8 3, .int .u8 4, .int .u8 5, .int .u8 6, .int .u8 7, .int .u8 8] TB)).alloc (.cells #[.int .u8 255, .int .u8 255, .int .u8 1] TB)).alloc (.cells #[.slice none 0 0, .slice (some ⟨w.heap.size, 0, none⟩) 1 1, .slice (some ⟨w.heap.size + 1, 0, none⟩) 1 1, .slice (some ⟨w.heap.size + 2, 0, none⟩) 1 1, .slice (some ⟨w.heap.size + 3, 0, none⟩) 4 4, .slice (some ⟨w.heap.size + 4, 0, none⟩) 5 5, .slice (some ⟨w.heap.size + 5, 0, none⟩) 7 7, .slice (some ⟨w.heap.size + 6, 0, none⟩) 8 8, .slice (some ⟨w.heap.size + 7, 0, none⟩) 3 3] 26)) a len len xs ∧ len ≤ 8 := by
  have hz : ((((((((w.alloc (.cells #[.int .u8 0] TB)).alloc (.cells #[.int .u8 1] TB)).alloc (.cells #[.int .u8 2] TB)).alloc (.cells #[.int .u8 0, .int .u8 3, .int .u8 1, .int .u8 2] TB)).alloc (.cells #[.int .u8 0, .int .u8 3, .int .u8 1, .int .u8 2, .int .u8 3] TB)).alloc (.cells #[.int .u8 1, .int .u8 2, .int .u8 3, .int .u8 4, .int .u8 5, .int .u8 6, .int .u8 7] TB)).alloc (.cells #[.int .u8 1, .int .u8 2, .int .u8 3, .int .u8 4, .int .u8 5, .int .u8 6, .int .u8 7, .int .u8 8] TB)).alloc (.cells #[.int .u8 255, .int .u8 255, .int .u8 1] TB)).heap.size = w.heap.size + 8 := by simp
  have hc := cell_new ((((((((w.alloc (.cells #[.int .u8 0] TB)).alloc (.cells #[.int .u8 1] TB)).alloc (.cells #[.int .u8 2] TB)).alloc (.cells #[.int .u8 0, .int .u8 3, .int .u8 1, .int .u8 2] TB)).alloc (.cells #[.int .u8 0, .int .u8 3, .int .u8 1, .int .u8 2, .int .u8 3] TB)).alloc (.cells #[.int .u8 1, .int .u8 2, .int .u8 3, .int .u8 4, .int .u8 5, .int .u8 6, .int .u8 7] TB)).alloc (.cells #[.int .u8 1, .int .u8 2, .int .u8 3, .int .u8 4, .int .u8 5, .int .u8 6, .int .u8 7, .int .u8 8] TB)).alloc (.cells #[.int .u8 255, .int .u8 255, .int .u8 1] TB)) #[.slice none 0 0, .slice (some ⟨w.heap.size, 0, none⟩) 1 1, .slice (some ⟨w.heap.size + 1, 0, none⟩) 1 1, .slice (some ⟨w.heap.size + 2, 0, none⟩) 1 1, .slice (some ⟨w.heap.size + 3, 0, none⟩) 4 4, .slice (some ⟨w.heap.size + 4, 0, none⟩) 5 5, .slice (some ⟨w.heap.size + 5, 0, none⟩) 7 7, .slice (some ⟨w.heap.size + 6, 0, none⟩) 8 8, .slice (some ⟨w.heap.size + 7, 0, none⟩) 3 3] 26 i
  rw [hz] at hc
  match i, hi with
  | 0, _ => exact ⟨_, _, [], hc, Bs.nil _, by omega⟩
  | 1, _ =>
    have h0 : Bs (w.alloc (.cells #[.int .u8 0] TB)) (some ⟨w.heap.size, 0, none⟩) 1 1 [0] := by have h := Bs.newRow w #[.int .u8 0] TB (0, 0) 1 1 [0] rfl (Nat.le_refl _) (by simp [maxLen]) rfl; rw [show w.heap.size = w.heap.size from by simp] at h; exact h
    exact ⟨_, _, [0], hc, (((((((h0.alloc _).alloc _).alloc _).alloc _).alloc _).alloc _).alloc _).alloc _, by omega⟩
  | 2, _ =>
    have h0 : Bs ((w.alloc (.cells #[.int .u8 0] TB)).alloc (.cells #[.int .u8 1] TB)) (some ⟨w.heap.size + 1, 0, none⟩) 1 1 [1] := by have h := Bs.newRow (w.alloc (.cells #[.int .u8 0] TB)) #[.int .u8 1] TB (0, 0) 1 1 [1] rfl (Nat.le_refl _) (by simp [maxLen]) rfl; rw [show (w.alloc (.cells #[.int .u8 0] TB)).heap.size = w.heap.size + 1 from by simp] at h; exact h
    exact ⟨_, _, [1], hc, ((((((h0.alloc _).alloc _).alloc _).alloc _).alloc _).alloc _).alloc _, by omega⟩
  | 3, _ =>
    have h0 : Bs (((w.alloc (.cells #[.int .u8 0] TB)).alloc (.cells #[.int .u8 1] TB)).alloc (.cells #[.int .u8 2] TB)) (some ⟨w.heap.size + 2, 0, none⟩) 1 1 [2] := by have h := Bs.newRow ((w.alloc (.cells #[.int .u8 0] TB)).alloc (.cells #[.int .u8 1] TB)) #[.int .u8 2] TB (0, 0) 1 1 [2] rfl (Nat.le_refl _) (by simp [maxLen]) rfl; rw [show ((w.alloc (.cells #[.int .u8 0] TB)).alloc (.cells #[.int .u8 1] TB)).heap.size = w.heap.size + 2 from by simp] at h; exact h
    exact ⟨_, _, [2], hc, (((((h0.alloc _).alloc _).alloc _).alloc _).alloc _).alloc _, by omega⟩
  | 4, _ =>
    have h0 : Bs ((((w.alloc (.cells #[.int .u8 0] TB)).alloc (.cells #[.int .u8 1] TB)).alloc (.cells #[.int .u8 2] TB)).alloc (.cells #[.int .u8 0, .int .u8 3, .int .u8 1, .int .u8 2] TB)) (some ⟨w.heap.size + 3, 0, none⟩) 4 4 [0, 3, 1, 2] := by have h := Bs.newRow (((w.alloc (.cells #[.int .u8 0] TB)).alloc (.cells #[.int .u8 1] TB)).alloc (.cells #[.int .u8 2] TB)) #[.int .u8 0, .int .u8 3, .int .u8 1, .int .u8 2] TB (0, 0) 4 4 [0, 3, 1, 2] rfl (Nat.le_refl _) (by simp [maxLen]) rfl; rw [show (((w.alloc (.cells #[.int .u8 0] TB)).alloc (.cells #[.int .u8 1] TB)).alloc (.cells #[.int .u8 2] TB)).heap.size = w.heap.size + 3 from by simp] at h; exact h
    exact ⟨_, _, [0, 3, 1, 2], hc, ((((h0.alloc _).alloc _).alloc _).alloc _).alloc _, by omega⟩
  | 5, _ =>
    have h0 : Bs (((((w.alloc (.cells #[.int .u8 0] TB)).alloc (.cells #[.int .u8 1] TB)).alloc (.cells #[.int .u8 2] TB)).alloc (.cells #[.int .u8 0, .int .u8 3, .int .u8 1, .int .u8 2] TB)).alloc (.cells #[.int .u8 0, .int .u8 3, .int .u8 1, .int .u8 2, .int .u8 3] TB)) (some ⟨w.heap.size + 4, 0, none⟩) 5 5 [0, 3, 1, 2, 3] := by have h := Bs.newRow ((((w.alloc (.cells #[.int .u8 0] TB)).alloc (.cells #[.int .u8 1] TB)).alloc (.cells #[.int .u8 2] TB)).alloc (.cells #[.int .u8 0, .int .u8 3, .int .u8 1, .int .u8 2] TB)) #[.int .u8 0, .int .u8 3, .int .u8 1, .int .u8 2, .int .u8 3] TB (0, 0) 5 5 [0, 3, 1, 2, 3] rfl (Nat.le_refl _) (by simp [maxLen]) rfl; rw [show ((((w.alloc (.cells #[.int .u8 0] TB)).alloc (.cells #[.int .u8 1] TB)).alloc (.cells #[.int .u8 2] TB)).alloc (.cells #[.int .u8 0, .int .u8 3, .int .u8 1, .int .u8 2] TB)).heap.size = w.heap.size + 4 from by simp] at h; exact h
    exact ⟨_, _, [0, 3, 1, 2, 3], hc, (((h0.alloc _).alloc _).alloc _).alloc _, by omega⟩
  | 6, _ =>
    have h0 : Bs ((((((w.alloc (.cells #[.int .u8 0] TB)).alloc (.cells #[.int .u8 1] TB)).alloc (.cells #[.int .u8 2] TB)).alloc (.cells #[.int .u8 0, .int .u8 3, .int .u8 1, .int .u8 2] TB)).alloc (.cells #[.int .u8 0, .int .u8 3, .int .u8 1, .int .u8 2, .int .u8 3] TB)).alloc (.cells #[.int .u8 1, .int .u8 2, .int .u8 3, .int .u8 4, .int .u8 5, .int .u8 6, .int .u8 7] TB)) (some ⟨w.heap.size + 5, 0, none⟩) 7 7 [1, 2, 3, 4, 5, 6, 7] := by have h := Bs.newRow (((((w.alloc (.cells #[.int .u8 0] TB)).alloc (.cells #[.int .u8 1] TB)).alloc (.cells #[.int .u8 2] TB)).alloc (.cells #[.int .u8 0, .int .u8 3, .int .u8 1, .int .u8 2] TB)).alloc (.cells #[.int .u8 0, .int .u8 3, .int .u8 1, .int .u8 2, .int .u8 3] TB)) #[.int .u8 1, .int .u8 2, .int .u8 3, .int .u8 4, .int .u8 5, .int .u8 6, .int .u8 7] TB (0, 0) 7 7 [1, 2, 3, 4, 5, 6, 7] rfl (Nat.le_refl _) (by simp [maxLen]) rfl; rw [show (((((w.alloc (.cells #[.int .u8 0] TB)).alloc (.cells #[.int .u8 1] TB)).alloc (.cells #[.int .u8 2] TB)).alloc (.cells #[.int .u8 0, .int .u8 3, .int .u8 1, .int .u8 2] TB)).alloc (.cells #[.int .u8 0, .int .u8 3, .int .u8 1, .int .u8 2, .int .u8 3] TB)).heap.size = w.heap.size + 5 from by simp] at h; exact h
    exact ⟨_, _, [1, 2, 3, 4, 5, 6, 7], hc, ((h0.alloc _).alloc _).alloc _, by omega⟩
  | 7, _ =>
    have h0 : Bs (((((((w.alloc (.cells #[.int .u8 0] TB)).alloc (.cells #[.int .u8 1] TB)).alloc (.cells #[.int .u8 2] TB)).alloc (.cells #[.int .u8 0, .int .u8 3, .int .u8 1, .int .u8 2] TB)).alloc (.cells #[.int .u8 0, .int .u8 3, .int .u8 1, .int .u8 2, .int .u8 3] TB)).alloc (.cells #[.int .u8 1, .int .u8 2, .int .u8 3, .int .u8 4, .int .u8 5, .int .u8 6, .int .u8 7] TB)).alloc (.cells #[.int .u8 1, .int .u8 2, .int .u8 3, .int .u8 4, .int .u8 5, .int .u8 6, .int .u8 7, .int .u8 8] TB)) (some ⟨w.heap.size + 6, 0, none⟩) 8 8 [1, 2, 3, 4, 5, 6, 7, 8] := by have h := Bs.newRow ((((((w.alloc (.cells #[.int .u8 0] TB)).alloc (.cells #[.int .u8 1] TB)).alloc (.cells #[.int .u8 2] TB)).alloc (.cells #[.int .u8 0, .int .u8 3, .int .u8 1, .int .u8 2] TB)).alloc (.cells #[.int .u8 0, .int .u8 3, .int .u8 1, .int .u8 2, .int .u8 3] TB)).alloc (.cells #[.int .u8 1, .int .u8 2, .int .u8 3, .int .u8 4, .int .u8 5, .int .u8 6, .int .u8 7] TB)) #[.int .u8 1, .int .u8 2, .int .u8 3, .int .u8 4, .int .u8 5, .int .u8 6, .int .u8 7, .int .u8 8] TB (0, 0) 8 8 [1, 2, 3, 4, 5, 6, 7, 8] rfl (Nat.le_refl _) (by simp [maxLen]) rfl; rw [show ((((((w.alloc (.cells #[.int .u8 0] TB)).alloc (.cells #[.int .u8 1] TB)).alloc (.cells #[.int .u8 2] TB)).alloc (.cells #[.int .u8 0, .int .u8 3, .int .u8 1, .int .u8 2] TB)).alloc (.cells #[.int .u8 0, .int .u8 3, .int .u8 1, .int .u8 2, .int .u8 3] TB)).alloc (.cells #[.int .u8 1, .int .u8 2, .int .u8 3, .int .u8 4, .int .u8 5, .int .u8 6, .int .u8 7] TB)).heap.size = w.heap.size + 6 from by simp] at h; exact h
    exact ⟨_, _, [1, 2, 3, 4, 5, 6, 7, 8], hc, (h0.alloc _).alloc _, by omega⟩
  | 8, _ =>
    have h0 : Bs ((((((((w.alloc (.cells #[.int .u8 0] TB)).alloc (.cells #[.int .u8 1] TB)).alloc (.cells #[.int .u8 2] TB)).alloc (.cells #[.int .u8 0, .int .u8 3, .int .u8 1, .int .u8 2] TB)).alloc (.cells #[.int .u8 0, .int .u8 3, .int .u8 1, .int .u8 2, .int .u8 3] TB)).alloc (.cells #[.int .u8 1, .int .u8 2, .int .u8 3, .int .u8 4, .int .u8 5, .int .u8 6, .int .u8 7] TB)).alloc (.cells #[.int .u8 1, .int .u8 2, .int .u8 3, .int .u8 4, .int .u8 5, .int .u8 6, .int .u8 7, .int .u8 8] TB)).alloc (.cells #[.int .u8 255, .int .u8 255, .int .u8 1] TB)) (some ⟨w.heap.size + 7, 0, none⟩) 3 3 [255, 255, 1] := by have h := Bs.newRow (((((((w.alloc (.cells #[.int .u8 0] TB)).alloc (.cells #[.int .u8 1] TB)).alloc (.cells #[.int .u8 2] TB)).alloc (.cells #[.int .u8 0, .int .u8 3, .int .u8 1, .int .u8 2] TB)).alloc (.cells #[.int .u8 0, .int .u8 3, .int .u8 1, .int .u8 2, .int .u8 3] TB)).alloc (.cells #[.int .u8 1, .int .u8 2, .int .u8 3, .int .u8 4, .int .u8 5, .int .u8 6, .int .u8 7] TB)).alloc (.cells #[.int .u8 1, .int .u8 2, .int .u8 3, .int .u8 4, .int .u8 5, .int .u8 6, .int .u8 7, .int .u8 8] TB)) #[.int .u8 255, .int .u8 255, .int .u8 1] TB (0, 0) 3 3 [255, 255, 1] rfl (Nat.le_refl _) (by simp [maxLen]) rfl; rw [show (((((((w.alloc (.cells #[.int .u8 0] TB)).alloc (.cells #[.int .u8 1] TB)).alloc (.cells #[.int .u8 2] TB)).alloc (.cells #[.int .u8 0, .int .u8 3, .int .u8 1, .int .u8 2] TB)).alloc (.cells #[.int .u8 0, .int .u8 3, .int .u8 1, .int .u8 2, .int .u8 3] TB)).alloc (.cells #[.int .u8 1, .int .u8 2, .int .u8 3, .int .u8 4, .int .u8 5, .int .u8 6, .int .u8 7] TB)).alloc (.cells #[.int .u8 1, .int .u8 2, .int .u8 3, .int .u8 4, .int .u8 5, .int .u8 6, .int .u8 7, .int .u8 8] TB)).heap.size = w.heap.size + 7 from by simp] at h; exact h
    exact ⟨_, _, [255, 255, 1], hc, h0.alloc _, by omega⟩

set_option maxHeartbeats 8000000 in
set_option maxRecDepth 100000 in
theorem CodecNumbers_walk (w : World) :
    Calls Try.prog 5 #[] w fun e w' => e = .returned (.bool true) ∧ Below w.heap.size w w' := by
  have HL := Lib.hid (codec_lits w)
  have hE := ((((((((((Ext.refl w).alloc (.cells #[.int .u8 0] TB)).alloc (.cells #[.int .u8 1] TB)).alloc (.cells #[.int .u8 2] TB)).alloc (.cells #[.int .u8 0, .int .u8 3, .int .u8 1, .int .u8 2] TB)).alloc (.cells #[.int .u8 0, .int .u8 3, .int .u8 1, .int .u8 2, .int .u8 3] TB)).alloc (.cells #[.int .u8 1, .int .u8 2, .int .u8 3, .int .u8 4, .int .u8 5, .int .u8 6, .int .u8 7] TB)).alloc (.cells #[.int .u8 1, .int .u8 2, .int .u8 3, .int .u8 4, .int .u8 5, .int .u8 6, .int .u8 7, .int .u8 8] TB)).alloc (.cells #[.int .u8 255, .int .u8 255, .int .u8 1] TB)).alloc (.cells #[.slice none 0 0, .slice (some ⟨w.heap.size, 0, none⟩) 1 1, .slice (some ⟨w.heap.size + 1, 0, none⟩) 1 1, .slice (some ⟨w.heap.size + 2, 0, none⟩) 1 1, .slice (some ⟨w.heap.size + 3, 0, none⟩) 4 4, .slice (some ⟨w.heap.size + 4, 0, none⟩) 5 5, .slice (some ⟨w.heap.size + 5, 0, none⟩) 7 7, .slice (some ⟨w.heap.size + 6, 0, none⟩) 8 8, .slice (some ⟨w.heap.size + 7, 0, none⟩) 3 3] 26))
  have hs : w.heap.size + 8 < (((((((((w.alloc (.cells #[.int .u8 0] TB)).alloc (.cells #[.int .u8 1] TB)).alloc (.cells #[.int .u8 2] TB)).alloc (.cells #[.int .u8 0, .int .u8 3, .int .u8 1, .int .u8 2] TB)).alloc (.cells #[.int .u8 0, .int .u8 3, .int .u8 1, .int .u8 2, .int .u8 3] TB)).alloc (.cells #[.int .u8 1, .int .u8 2, .int .u8 3, .int .u8 4, .int .u8 5, .int .u8 6, .int .u8 7] TB)).alloc (.cells #[.int .u8 1, .int .u8 2, .int .u8 3, .int .u8 4, .int .u8 5, .int .u8 6, .int .u8 7, .int .u8 8] TB)).alloc (.cells #[.int .u8 255, .int .u8 255, .int .u8 1] TB)).alloc (.cells #[.slice none 0 0, .slice (some ⟨w.heap.size, 0, none⟩) 1 1, .slice (some ⟨w.heap.size + 1, 0, none⟩) 1 1, .slice (some ⟨w.heap.size + 2, 0, none⟩) 1 1, .slice (some ⟨w.heap.size + 3, 0, none⟩) 4 4, .slice (some ⟨w.heap.size + 4, 0, none⟩) 5 5, .slice (some ⟨w.heap.size + 5, 0, none⟩) 7 7, .slice (some ⟨w.heap.size + 6, 0, none⟩) 8 8, .slice (some ⟨w.heap.size + 7, 0, none⟩) 3 3] 26)).heap.size := by simp
  obtain ⟨A, hA⟩ : ∃ A, A = w.heap.size + 8 := ⟨_, rfl⟩
  rw [← hA] at HL hs
  have HA := Lib.hid hA
  clear hA
  go_enter Try.func5, Try.ntmps5
  go_wp2_with fail
  rw [← HA.out]
  generalize ((((((((w.alloc (.cells #[.int .u8 0] TB)).alloc (.cells #[.int .u8 1] TB)).alloc (.cells #[.int .u8 2] TB)).alloc (.cells #[.int .u8 0, .int .u8 3, .int .u8 1, .int .u8 2] TB)).alloc (.cells #[.int .u8 0, .int .u8 3, .int .u8 1, .int .u8 2, .int .u8 3] TB)).alloc (.cells #[.int .u8 1, .int .u8 2, .int .u8 3, .int .u8 4, .int .u8 5, .int .u8 6, .int .u8 7] TB)).alloc (.cells #[.int .u8 1, .int .u8 2, .int .u8 3, .int .u8 4, .int .u8 5, .int .u8 6, .int .u8 7, .int .u8 8] TB)).alloc (.cells #[.int .u8 255, .int .u8 255, .int .u8 1] TB)).alloc (.cells #[.slice none 0 0, .slice (some ⟨w.heap.size, 0, none⟩) 1 1, .slice (some ⟨w.heap.size + 1, 0, none⟩) 1 1, .slice (some ⟨w.heap.size + 2, 0, none⟩) 1 1, .slice (some ⟨w.heap.size + 3, 0, none⟩) 4 4, .slice (some ⟨w.heap.size + 4, 0, none⟩) 5 5, .slice (some ⟨w.heap.size + 5, 0, none⟩) 7 7, .slice (some ⟨w.heap.size + 6, 0, none⟩) 8 8, .slice (some ⟨w.heap.size + 7, 0, none⟩) 3 3] 26) = W1 at *
  go_loopw [17] (fun i wr => ∃ j : Nat, j ≤ 9 ∧ i = .int .i64 j ∧ Ext W1.heap.size W1 wr) (fun i _ => 9 - (intOf i).toNat)
  case atStart => exact ⟨0, by omega, rfl, Ext.refl _⟩
  case round =>
    obtain ⟨j, hj, rfl, hEx⟩ := hrel
    by_cases hlj : j < 9
    · obtain ⟨a, len, xs, hcj, hBj, hl8⟩ := HL.out j hlj
      have hcj' := hEx.cel hs hcj
      have hj0 : (0 : Int) ≤ (j : Int) := by omega
      have hj9 : (j : Int) < 9 := by omega
      clear hcj
      go_wp2_with fail
      go_loopw [3] (fun i wy => ∃ k : Int, 1 ≤ k ∧ k ≤ 7 ∧ i = .int .i64 k ∧ Ext W1.heap.size W1 wy) (fun i _ => (7 - intOf i).toNat)
      case atStart => exact ⟨1, by omega, by omega, rfl, hEx⟩
      case round =>
        obtain ⟨k, hk1, hk2, rfl, hEy⟩ := hrel
        clear hEx hcj'
        by_cases hlk : k ≤ 6
        · have hB := hBj.below hEy.1
          have HN := Lib.hid (rnew_any a len len xs wr hB (by unfold big; omega))
          go_wp2_with fail
          refine HN.out.mono ?_
          rintro e w2 ⟨q, rb, rfl, hR, hb2⟩
          have hE2 := hEy.step hb2
          have hB2 := hB.below hb2
          have hRx := hR
          have hp0 : wr.heap.size ≤ q := hR.1
          have hqlt := hR.lt
          have hWr : W1.heap.size ≤ wr.heap.size := hEy.2
          have hW0 := RR.new hB2 (by unfold big; omega)
          have hR0 := hR.below ((Below.refl _ _).alloc (Nat.le_refl _) (.cells #[.slice a len len, .int .i64 0, .int .i64 0] 47))
          have hE0 := hE2.alloc (.cells #[.slice a len len, .int .i64 0, .int .i64 0] 47)
          obtain ⟨q2, hq2⟩ : ∃ q2, q2 = w2.heap.size := ⟨_, rfl⟩
          rw [← hq2] at hW0 hqlt
          have HQ2 := Lib.hid hq2
          have hq2W : W1.heap.size ≤ q2 := by omega
          have hne : q ≠ q2 := by omega
          have hxl : xs.length ≤ 8 := by rw [hB.1]; omega
          obtain ⟨p, hp⟩ : ∃ p, p = wr.heap.size := ⟨_, rfl⟩
          rw [← hp] at hR0
          have hl0 : ((xs, 0) : List UInt8 × Nat).1.length ≤ big := by show xs.length ≤ big; unfold big; omega
          obtain ⟨T0, hT0⟩ : ∃ T0 : List UInt8 × Nat, T0 = (xs, 0) := ⟨_, rfl⟩
          have hR0' : Rd (w2.alloc (.cells #[.slice a len len, .int .i64 0, .int .i64 0] 47)) p q rb T0.1 T0.2 := by rw [hT0]; exact hR0
          rw [← hT0] at hW0 hl0
          clear hR0 hRx hR HN hB hB2 hE2 hb2 hEy hp hT0 hq2
          have hR0 := hR0'
          clear hR0'
          go_upto_region 9 with fail
          rw [← HQ2.out]
          generalize w2.alloc (.cells #[.slice a len len, .int .i64 0, .int .i64 0] 47) = w3 at *
          go_wp2_with fail
          refine (get_any p q2 q q2 rb xs T0 k 5 (.slice none 0 0) _ hR0 hl0 hW0 hne).mono ?_
          rintro e w4 ⟨rfl, T1, hR1, hl1, hW1, hC1⟩
          have hE1 := hE0.to (hC1.below (by have := hE0.2; omega) (fun j _ hj => by rcases hj with h | h <;> omega))
          clear hR0 hl0 hW0 hC1 hE0
          go_wp2_with fail
          refine (get_any p q2 q q2 rb xs T1 1 0 (.slice none 0 0) _ hR1 hl1 hW1 hne).mono ?_
          rintro e w5 ⟨rfl, T2, hR2, hl2, hW2, hC2⟩
          have hE2 := hE1.to (hC2.below (by have := hE1.2; omega) (fun j _ hj => by rcases hj with h | h <;> omega))
          clear hR1 hl1 hW1 hC2 hE1
          go_wp2_with fail
          refine (get_any p q2 q q2 rb xs T2 4 0 (.slice none 0 0) _ hR2 hl2 hW2 hne).mono ?_
          rintro e w6 ⟨rfl, T3, hR3, hl3, hW3, hC3⟩
          have hE3 := hE2.to (hC3.below (by have := hE2.2; omega) (fun j _ hj => by rcases hj with h | h <;> omega))
          clear hR2 hl2 hW2 hC3 hE2
          go_wp2_with fail
          refine (get_any p q2 q q2 rb xs T3 5 0 (.slice none 0 0) _ hR3 hl3 hW3 hne).mono ?_
          rintro e w7 ⟨rfl, T4, hR4, hl4, hW4, hC4⟩
          have hE4 := hE3.to (hC4.below (by have := hE3.2; omega) (fun j _ hj => by rcases hj with h | h <;> omega))
          clear hR3 hl3 hW3 hC4 hE3
          go_wp2_with fail
          go_roundw
          case rel => exact ⟨k + 1, by omega, by omega, by go_num, hE4⟩
          case measure => simp [intOf]; omega
        · obtain rfl : k = 7 := by omega
          go_wp2_with fail
          go_roundw
          case rel => exact ⟨j + 1, by omega, by go_num, hEy⟩
          case measure => simp [intOf]; omega
    · obtain rfl : j = 9 := by omega
      have hEf := hE.to (hEx.1.mono hE.2)
      go_wp2_with fail
      refine (wnew_any wr).mono ?_
      rintro e w2 ⟨rfl, hW2, hb2⟩
      have hE2 := hEf.step hb2
      have hWl := hW2.lt
      have hmk : ∀ W, (Instr.makeSlice 26 (.int .i64 (70000 : Int)) (.int .i64 (70000 : Int))).run Try.prog W = .ok (.slice (some ⟨W.heap.size, 0, none⟩) 70000 70000) (W.alloc (.cells (madeCells #[.int .u8 0] 70000) TB)) := fun W => run_make_bytes 70000 (by omega) W
      have hZ := (Row.zero w2 70000 (by simp [maxLen])).bs
      rw [List.length_replicate] at hZ
      have hW2' := hW2.below ((Below.refl _ _).alloc (Nat.le_refl _) (.cells (madeCells #[.int .u8 0] 70000) TB))
      have hE2' := hE2.alloc (.cells (madeCells #[.int .u8 0] 70000) TB)
      obtain ⟨P, hP⟩ : ∃ P, P = wr.heap.size := ⟨_, rfl⟩
      have HP := Lib.hid hP
      have hPw : w.heap.size ≤ P := by rw [hP]; exact hEf.2
      rw [← hP] at hW2' hWl
      have HB := Lib.hid (wbytes_any P P none [] _ 70000 70000 (List.replicate 70000 0) _ hW2' hZ (fun _ ad had hws => by
        cases had
        rcases hws with h | h
        · simp only at h; omega
        · cases h) (by unfold big; simp))
      have hLn : (lenBytes (List.replicate 70000 (0 : UInt8))).length = 65537 := by simp only [lenBytes, List.length_append, be_length, List.length_take, List.length_replicate]; rfl
      rw [List.nil_append] at HB
      generalize lenBytes (List.replicate 70000 (0 : UInt8)) = L at *
      clear hZ hW2 hE2 hb2 hP
      go_wp2_with fail
      rw [← HP.out]
      refine HB.out.mono ?_
      rintro e w3 ⟨rfl, hP3⟩
      obtain ⟨g3, hW3, hC3, _⟩ := hP3
      have hE3 := hE2'.to ((hW2'.belowOf hC3).mono hPw)
      have HD := Lib.hid (wdone_any P P g3 L w3 hW3 (by rw [hLn]; unfold big; decide))
      clear hW2' hC3 hW3 HB
      go_wp2_with fail
      refine HD.out.mono ?_
      rintro e w4 ⟨v4, rfl, ho4, hb4⟩
      obtain ⟨a4, k4, rfl, _⟩ := ho4.bsn hLn
      have hE4 := hE3.step hb4
      clear HD ho4 hb4
      go_wp2_with fail
      refine (codec_known _).mono ?_
      rintro e w5 ⟨rfl, hb5⟩
      go_wp2_with fail
      go_ret
      exact ⟨rfl, (hE4.step hb5).1⟩
end Go.Proofs.Ytmedamofmlkccaa
