/- What is read as a node is just what is written of it. -/
import Derived.Test.YtphjdlckoddgmaaNode
namespace Go.Proofs.Ytphjdlckoddgmaa
open Go.RowKit

theorem rdRaw_inv' (s : List UInt8 × Nat) (n : Nat) (hn : 1 ≤ n) (h : (rdRaw s n).2.2 = 0) : ∃ ys zs, s = (ys ++ zs, 0) ∧ ys.length = n ∧ rdRaw s n = (ys, (zs, 0)) := by
  obtain ⟨xs, why⟩ := s
  by_cases hw : why = 0
  · subst hw
    obtain ⟨ys, zs, h1, h2, h3⟩ := rdRaw_inv xs n hn h
    exact ⟨ys, zs, by rw [h1], h2, h3⟩
  · exact absurd h (rdRaw_keeps (xs, why) n hw)
theorem rdShort_inv (s : List UInt8 × Nat) (h : (rdShort s).2.2 = 0) : ∃ ys zs, s = (ys ++ zs, 0) ∧ ys.length = 2 ∧ rdShort s = (num ys, (zs, 0)) := by
  obtain ⟨ys, zs, h1, h2, h3⟩ := rdRaw_inv' s 2 (by omega) h
  exact ⟨ys, zs, h1, h2, by unfold rdShort; rw [show rdRaw s 2 = _ from h3]⟩
theorem rdByte_inv (s : List UInt8 × Nat) (h : (rdByte s).2.2 = 0) : ∃ ys zs, s = (ys ++ zs, 0) ∧ ys.length = 1 ∧ rdByte s = (num ys, (zs, 0)) := by
  obtain ⟨ys, zs, h1, h2, h3⟩ := rdRaw_inv' s 1 (by omega) h
  exact ⟨ys, zs, h1, h2, by unfold rdByte; rw [show rdRaw s 1 = _ from h3]⟩
theorem rdLong_inv (s : List UInt8 × Nat) (h : (rdLong s).2.2 = 0) : ∃ ys zs, s = (ys ++ zs, 0) ∧ ys.length = 8 ∧ rdLong s = (num ys, (zs, 0)) := by
  obtain ⟨ys, zs, h1, h2, h3⟩ := rdRaw_inv' s 8 (by omega) h
  exact ⟨ys, zs, h1, h2, by unfold rdLong; rw [show rdRaw s 8 = _ from h3]⟩
theorem rdFlag_inv (s : List UInt8 × Nat) (h : (rdFlag s).2.2 = 0) : ∃ b zs, s = ([fb b] ++ zs, 0) ∧ rdFlag s = (b, (zs, 0)) := by
  have h1 : (rdByte s).2.2 = 0 := by
    unfold rdFlag at h
    split at h
    · simp at h
    · exact h
  obtain ⟨ys, zs, rfl, h2, h3⟩ := rdByte_inv s h1
  match ys, h2 with
  | [y], _ =>
    have hn : num [y] = y.toNat := by simp [num]
    have hy : ¬ 1 < y.toNat := fun hy => by
      unfold rdFlag at h
      rw [h3, hn, if_pos hy] at h
      simp at h
    refine ⟨y.toNat == 1, zs, ?_, ?_⟩
    · have : fb (y.toNat == 1) = y := by
        apply UInt8.toNat_inj.1
        rcases (show y.toNat = 0 ∨ y.toNat = 1 by omega) with h | h <;> rw [h] <;> rfl
      rw [this]
    · unfold rdFlag
      rw [h3, hn, if_neg hy]
theorem ndDec_inv (xs : List UInt8) (n : Nd) (h : ndDec xs = some n) : n.Ok ∧ xs = n.bytes ∧ n.til < 18446744073709551616 := by
  unfold ndDec at h
  split at h
  next hc =>
    obtain ⟨h1, h2⟩ := hc
    cases h
    refine ⟨h2, ?_, rdLong_lt _⟩
    unfold ndRead at *
    simp only at *
    clear h2
    have he : ∀ s, rdEnd s = 0 → s = ([], 0) := fun s hs => by
      obtain ⟨ys, why⟩ := s
      unfold rdEnd at hs
      simp only at hs
      split at hs
      · omega
      · rename_i hn
        subst hs
        cases ys
        · rfl
        · exact absurd ⟨rfl, by simp⟩ hn
    have h6 := he _ h1
    clear h1 he
    obtain ⟨b, z6, e5, e6⟩ := rdFlag_inv _ (by rw [h6])
    rw [e6] at h6 ⊢
    simp only at h6
    obtain rfl : z6 = [] := by simpa using h6
    obtain ⟨y5, z5, e4, l5, f5⟩ := rdLong_inv _ (by rw [e5])
    rw [f5] at e5 ⊢
    obtain ⟨y4, z4, e3, l4, f4⟩ := rdShort_inv _ (by rw [e4])
    rw [f4] at e4 ⊢
    obtain ⟨y3, z3, e2, l3, f3⟩ := rdShort_inv _ (by rw [e3])
    rw [f3] at e3 ⊢
    obtain ⟨y2, z2, e1, l2, f2⟩ := rdByte_inv _ (by rw [e2])
    rw [f2] at e2 ⊢
    obtain ⟨y1, z1, e0, l1, f1⟩ := rdShort_inv _ (by rw [e1])
    rw [f1] at e1 ⊢
    simp only [Prod.mk.injEq, and_true] at e0 e1 e2 e3 e4 e5
    subst e5 e4 e3 e2 e1
    rw [e0]
    unfold Nd.bytes
    simp only [Int.toNat_natCast]
    rw [← l1, ← l2, be_num, be_num, ← l5, be_num]
    have g3 := be_num y3
    have g4 := be_num y4
    rw [l3] at g3
    rw [l4] at g4
    rw [l1, g3, g4]
    simp
  next => cases h
end Go.Proofs.Ytphjdlckoddgmaa
