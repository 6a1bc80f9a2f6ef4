/- A record of which a byte is turned, but for its Body's length, is not read: plain Lean. -/
import Derived.Test.YtmjlndfkddacbaaRecordLaw
import Derived.Test.YtmjlndfkddacbaaCrcLaw
namespace Go.Proofs.Ytmjlndfkddacbaa
open Go.RowKit

theorem be4_inj (a b : Nat) (ha : a < 4294967296) (hb : b < 4294967296) (h : be a 4 = be b 4) : a = b := by
  have h1 := congrArg num h
  rw [num_be, num_be] at h1
  omega
theorem xor_ne (x t : UInt8) (ht : t ≠ 0) : x ≠ x ^^^ t := fun h => ht (by
  have h2 := congrArg (x ^^^ ·) h
  simp only [← UInt8.xor_assoc, UInt8.xor_self, UInt8.zero_xor] at h2
  exact h2.symm)
theorem crc_set (xs : List UInt8) (i : Nat) (hi : i < xs.length) (t : UInt8) (ht : t ≠ 0) : crcMore 0 (xs.set i (xs[i] ^^^ t)) ≠ crcMore 0 xs := by
  intro h
  have e4 := turned_succ xs i [t] 0 (by omega) (by simp)
  rw [turned_zero] at e4
  simp only [Nat.add_zero, List.getElem_cons_zero] at e4
  rw [← e4] at h
  have := (crc_turned xs i [t] 1 (by omega) (by simp) (by omega)).1 h
  exact ht (this t (by simp))
/-- nine bytes, a length, so many bytes, four bytes: how they are read -/
theorem rec_shape (h9 ys C : List UInt8) (h1 : h9.length = 9) (h2 : ys.length ≤ 65535) (h3 : C.length = 4) :
    rdW (h9 ++ (be ys.length 2 ++ (ys ++ C))) = C ∧ rdE (h9 ++ (be ys.length 2 ++ (ys ++ C))) = 11 + ys.length := by
  match h9, h1 with
  | x :: q8, h1 =>
    have hq8 : q8.length = 8 := by simpa using h1
    have e1 : rdK (x :: q8 ++ (be ys.length 2 ++ (ys ++ C))) = (x.toNat, (q8 ++ (be ys.length 2 ++ (ys ++ C)), 0)) := by
      unfold rdK rdByte
      rw [List.cons_append, rdRaw_one]
      simp [num]
    have e2 : rdQ (x :: q8 ++ (be ys.length 2 ++ (ys ++ C))) = (num q8, (be ys.length 2 ++ (ys ++ C), 0)) := by
      unfold rdQ
      rw [e1]
      unfold rdLong
      simp only
      rw [rdRaw_app q8 _ 8 (by omega)]
    have e3 : rdB (x :: q8 ++ (be ys.length 2 ++ (ys ++ C))) = (ys, (C, 0)) := by
      unfold rdB
      rw [e2]
      simp only
      rw [← List.append_assoc]
      exact rdBytes_app ys C h2
    constructor
    · unfold rdW
      rw [e3]
      simp only
      have := rdRaw_app C [] 4 (by omega)
      rw [List.append_nil] at this
      rw [this]
    · unfold rdE
      rw [e3]
      unfold rdLeft
      rw [if_neg (by simp)]
      simp only [List.length_append, List.length_cons, be_length]
      omega
theorem rec_accepts (h9 ys C : List UInt8) (h1 : h9.length = 9) (h2 : ys.length ≤ 65535) (h3 : C.length = 4) (h : recWhy (h9 ++ (be ys.length 2 ++ (ys ++ C))) = 0) :
    C = be (crcMore 0 (h9 ++ (be ys.length 2 ++ ys))) 4 := by
  obtain ⟨e1, e2⟩ := rec_shape h9 ys C h1 h2 h3
  unfold recWhy at h
  rw [e1, e2] at h
  rw [show h9 ++ (be ys.length 2 ++ (ys ++ C)) = (h9 ++ (be ys.length 2 ++ ys)) ++ C by simp, List.take_left' (by simp [h1, be_length]; omega)] at h
  by_cases hC : C = be (crcMore 0 (h9 ++ (be ys.length 2 ++ ys))) 4
  · exact hC
  · split at h
    · cases h
    · rw [if_neg (by omega)] at h
      cases h
theorem recWhy_turned (k q : Nat) (ys : List UInt8) (i : Nat) (t : UInt8) (hok : RecOk (k : Int) q ys.length) (hi : i < (recBytes k q ys).length) (h9 : i ≠ 9) (h10 : i ≠ 10) (ht : t ≠ 0) :
    recWhy ((recBytes k q ys).set i ((recBytes k q ys)[i] ^^^ t)) ≠ 0 := by
  intro h
  have hy : ys.length ≤ 65535 := by have := hok.2.1; omega
  have hH : recHead k q ys = (be k 1 ++ be q 8) ++ (be ys.length 2 ++ ys) := by simp [recHead, lenBytes_eq ys hy]
  have hHl := recHead_length k q ys hy
  have hcl : (be (crcMore 0 (recHead k q ys)) 4).length = 4 := be_length _ _
  have hX : recBytes k q ys = recHead k q ys ++ be (crcMore 0 (recHead k q ys)) 4 := rfl
  by_cases hlt : i < 11 + ys.length
  · have hget : (recBytes k q ys)[i] = (recHead k q ys)[i]'(by omega) := by
      simp only [hX]; exact List.getElem_append_left (by omega)
    rw [hget, hX, List.set_append_left _ _ (by omega)] at h
    have hne := crc_set (recHead k q ys) i (by omega) t ht
    generalize (recHead k q ys)[i]'(by omega) ^^^ t = v at *
    have hc1 := crcMore_lt 0 (recHead k q ys)
    have hc2 := crcMore_lt 0 ((recHead k q ys).set i v)
    by_cases hi9 : i < 9
    · have e : (recHead k q ys).set i v = ((be k 1 ++ be q 8).set i v) ++ (be ys.length 2 ++ ys) := by
        rw [hH, List.set_append_left _ _ (by simp [be_length]; omega)]
      rw [e, List.append_assoc, List.append_assoc] at h
      have := rec_accepts _ ys _ (by simp [be_length]) hy hcl h
      rw [← e] at this
      exact hne (be4_inj _ _ hc1 hc2 this).symm
    · have e : (recHead k q ys).set i v = (be k 1 ++ be q 8) ++ (be (ys.set (i - 11) v).length 2 ++ (ys.set (i - 11) v)) := by
        rw [hH, List.set_append_right _ _ (by simp [be_length]; omega), List.set_append_right _ _ (by simp [be_length]; omega), List.length_set]
        simp only [List.length_append, be_length]
        rw [show i - (1 + 8) - 2 = i - 11 by omega]
      rw [e, List.append_assoc, List.append_assoc] at h
      rw [List.append_assoc] at h
      have h' : recWhy ((be k 1 ++ be q 8) ++ (be (ys.set (i - 11) v).length 2 ++ (ys.set (i - 11) v ++ be (crcMore 0 (recHead k q ys)) 4))) = 0 := by simpa using h
      have := rec_accepts _ (ys.set (i - 11) v) _ (by simp [be_length]) (by rw [List.length_set]; exact hy) hcl h'
      rw [← e] at this
      exact hne (be4_inj _ _ hc1 hc2 this).symm
  · have hXl := recBytes_length k q ys hy
    have hxs : (recBytes k q ys)[i]? = some (recBytes k q ys)[i] := List.getElem?_eq_getElem hi
    generalize (recBytes k q ys)[i] = x at *
    rw [hX, List.getElem?_append_right (by omega), hHl] at hxs
    rw [hX, List.set_append_right _ _ (by omega), hHl, hH] at h
    rw [← hH] at h
    have hj : i - (11 + ys.length) < (be (crcMore 0 (recHead k q ys)) 4).length := by omega
    have h' : recWhy ((be k 1 ++ be q 8) ++ (be ys.length 2 ++ (ys ++ (be (crcMore 0 (recHead k q ys)) 4).set (i - (11 + ys.length)) (x ^^^ t)))) = 0 := by
      rw [show (be k 1 ++ be q 8) ++ (be ys.length 2 ++ (ys ++ (be (crcMore 0 (recHead k q ys)) 4).set (i - (11 + ys.length)) (x ^^^ t))) = recHead k q ys ++ (be (crcMore 0 (recHead k q ys)) 4).set (i - (11 + ys.length)) (x ^^^ t) by
        conv => rhs; rw [hH]
        simp [hH]]
      exact h
    have := rec_accepts _ ys _ (by simp [be_length]) hy (by rw [List.length_set]; exact hcl) h'
    rw [← hH] at this
    have h2 := congrArg (fun l : List UInt8 => l[i - (11 + ys.length)]?) this
    rw [List.getElem?_set_self hj, hxs] at h2
    exact xor_ne x t ht (Option.some.inj h2).symm
end Go.Proofs.Ytmjlndfkddacbaa
