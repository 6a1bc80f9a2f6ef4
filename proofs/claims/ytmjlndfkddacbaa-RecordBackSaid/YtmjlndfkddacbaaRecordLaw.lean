/- What record.Decode reads of a record's bytes: plain Lean. -/
import Derived.Test.YtmjlndfkddacbaaRecordDecRest
namespace Go.Proofs.Ytmjlndfkddacbaa
open Go.RowKit

theorem lenBytes_eq (ys : List UInt8) (h : ys.length ≤ 65535) : lenBytes ys = be ys.length 2 ++ ys := by
  unfold lenBytes; rw [Nat.min_eq_left h, List.take_of_length_le h]
/-- what reading bytes that begin with a record's head gives -/
theorem rec_reads (k q : Nat) (ys zs : List UInt8) (hk : k < 256) (hq : q < 18446744073709551616) (hy : ys.length ≤ 65535) :
    rdK (recHead k q ys ++ zs) = (k, (be q 8 ++ (lenBytes ys ++ zs), 0)) ∧ rdQ (recHead k q ys ++ zs) = (q, (lenBytes ys ++ zs, 0)) ∧ rdB (recHead k q ys ++ zs) = (ys, (zs, 0)) := by
  have e1 : rdK (recHead k q ys ++ zs) = (k, (be q 8 ++ (lenBytes ys ++ zs), 0)) := by
    unfold rdK recHead
    rw [List.append_assoc, List.append_assoc, rdByte_be, Nat.mod_eq_of_lt hk]
  have e2 : rdQ (recHead k q ys ++ zs) = (q, (lenBytes ys ++ zs, 0)) := by
    unfold rdQ
    rw [e1]
    exact rdLong_be _ _ hq
  refine ⟨e1, e2, ?_⟩
  unfold rdB
  rw [e2, lenBytes_eq _ hy]
  exact rdBytes_app _ _ hy
theorem recHead_length (k q : Nat) (ys : List UInt8) (h : ys.length ≤ 65535) : (recHead k q ys).length = 11 + ys.length := by
  simp [recHead, be_length, lenBytes_eq _ h]; omega
theorem recBytes_length (k q : Nat) (ys : List UInt8) (h : ys.length ≤ 65535) : (recBytes k q ys).length = 15 + ys.length := by
  simp [recBytes, recHead_length k q ys h, be_length]; omega
theorem badHead_rec (k q : Nat) (ys zs : List UInt8) (hk : k = 1 ∨ k = 2) : badHead (recHead k q ys ++ zs) = false := by
  rcases hk with rfl | rfl <;> rfl
/-- a record, and whatever stands behind it, is read -/
theorem recWhy_ok (k q : Nat) (ys zs : List UInt8) (hok : RecOk (k : Int) q ys.length) :
    recWhy (recBytes k q ys ++ zs) = 0 ∧ (rdK (recBytes k q ys ++ zs)).1 = k ∧ (rdQ (recBytes k q ys ++ zs)).1 = q ∧ (rdB (recBytes k q ys ++ zs)).1 = ys ∧ rdE (recBytes k q ys ++ zs) = 11 + ys.length := by
  have hk : k = 1 ∨ k = 2 := by have := hok.2.2; omega
  have hy : ys.length ≤ 65535 := by have := hok.2.1; omega
  have hq : q < 18446744073709551616 := by have := hok.1; omega
  have e0 : recBytes k q ys ++ zs = recHead k q ys ++ (be (crcMore 0 (recHead k q ys)) 4 ++ zs) := by simp [recBytes]
  rw [e0]
  obtain ⟨e1, e2, e3⟩ := rec_reads k q ys (be (crcMore 0 (recHead k q ys)) 4 ++ zs) (by omega) hq hy
  have eE : rdE (recHead k q ys ++ (be (crcMore 0 (recHead k q ys)) 4 ++ zs)) = 11 + ys.length := by
    unfold rdE
    rw [e3]
    unfold rdLeft
    rw [if_neg (by simp)]
    simp only [List.length_append, recHead_length k q ys hy]
    omega
  have eW : rdW (recHead k q ys ++ (be (crcMore 0 (recHead k q ys)) 4 ++ zs)) = be (crcMore 0 (recHead k q ys)) 4 := by
    unfold rdW
    rw [e3]
    simp only
    rw [rdRaw_app (be (crcMore 0 (recHead k q ys)) 4) zs 4 (by rw [be_length]; rfl)]
  refine ⟨?_, by rw [e1], by rw [e2], by rw [e3], eE⟩
  unfold recWhy
  rw [badHead_rec k q ys _ hk, eW, eE, e1, e2, e3, if_neg (by simp), be_length, if_neg (by omega), if_neg (by
    rw [show 11 + ys.length = (recHead k q ys).length from (recHead_length k q ys hy).symm, List.take_left']
    · simp
    · rfl), if_neg (fun h => h hok)]
theorem rdRaw_short_len (s : List UInt8 × Nat) (h : s.2 ≠ 0 ∨ s.1.length < 4) : (rdRaw s 4).1.length < 4 := by
  unfold rdRaw
  by_cases hw : s.2 ≠ 0
  · rw [if_pos hw]; simp
  · rw [if_neg hw, if_pos (by omega)]; simp
/-- bytes that lack -/
theorem recWhy_cut (k q : Nat) (ys : List UInt8) (m : Nat) (hok : RecOk (k : Int) q ys.length) (hm : m < 15 + ys.length) : recWhy ((recBytes k q ys).take m) = 10 := by
  have hk : k = 1 ∨ k = 2 := by have := hok.2.2; omega
  have hy : ys.length ≤ 65535 := by have := hok.2.1; omega
  have hq : q < 18446744073709551616 := by have := hok.1; omega
  have hb : badHead ((recBytes k q ys).take m) = false := by
    have e : recBytes k q ys = UInt8.ofNat k :: (be q 8 ++ lenBytes ys ++ be (crcMore 0 (recHead k q ys)) 4) := by simp [recBytes, recHead, be]
    rw [e]
    cases m with
    | zero => rfl
    | succ m => rcases hk with rfl | rfl <;> rfl
  have hw : (rdW ((recBytes k q ys).take m)).length < 4 := by
    unfold rdW
    refine rdRaw_short_len _ ?_
    have e : recBytes k q ys = be k 1 ++ (be q 8 ++ (be ys.length 2 ++ (ys ++ be (crcMore 0 (recHead k q ys)) 4))) := by simp [recBytes, recHead, lenBytes_eq _ hy]
    rw [e]
    generalize be (crcMore 0 (recHead k q ys)) 4 = c at *
    have hc : c.length = 4 := by have := recBytes_length k q ys hy; rw [e] at this; simp [be_length] at this; omega
    by_cases h0 : m < 1
    · obtain rfl : m = 0 := by omega
      rw [List.take_zero]
      left
      simp [rdB, rdBytes, rdShort, rdQ, rdLong, rdK, rdByte, rdRaw]
    · rw [List.take_append, be_length, List.take_of_length_le (by rw [be_length]; omega)]
      have eK : ∀ r, rdK (be k 1 ++ r) = (k % 256, (r, 0)) := fun r => rdByte_be k r
      by_cases h1 : m - 1 < 8
      · have hl : (List.take (m - 1) (be q 8 ++ (be ys.length 2 ++ (ys ++ c)))).length < 8 := by rw [List.length_take]; omega
        left
        unfold rdB rdQ
        rw [eK]
        simp only
        rw [rdLong_few _ hl]
        simp only
        rw [rdBytes_errs _ _ (by omega)]
        simp
      · rw [List.take_append, be_length, List.take_of_length_le (by rw [be_length]; omega)]
        have eQ : ∀ r, rdQ (be k 1 ++ (be q 8 ++ r)) = (q, (r, 0)) := fun r => by unfold rdQ; rw [eK]; exact rdLong_be q r hq
        by_cases h2 : m - 1 - 8 < 2
        · have hl : (List.take (m - 1 - 8) (be ys.length 2 ++ (ys ++ c))).length < 2 := by rw [List.length_take]; omega
          left
          unfold rdB
          rw [eQ]
          simp only [rdBytes, rdShort]
          rw [rdRaw_few _ 2 (by omega)]
          simp only
          rw [rdRaw_errs _ _ _ (by omega)]
          simp
        · rw [List.take_append, be_length, List.take_of_length_le (by rw [be_length]; omega)]
          have eB : ∀ r, rdB (be k 1 ++ (be q 8 ++ (be ys.length 2 ++ r))) = rdRaw (r, 0) (ys.length : Int) := fun r => by
            unfold rdB
            rw [eQ]
            unfold rdBytes
            rw [rdShort_be, Nat.mod_eq_of_lt (by omega)]
          rw [eB]
          by_cases h3 : m - 1 - 8 - 2 < ys.length
          · left
            rw [rdRaw_few _ _ (by rw [List.length_take]; omega)]
            simp
          · right
            rw [List.take_append, List.take_of_length_le (by omega)]
            rw [rdRaw_app ys _ _ rfl]
            simp only [List.length_take]
            omega
  unfold recWhy
  rw [hb, if_neg (by simp), if_pos hw]
end Go.Proofs.Ytmjlndfkddacbaa
