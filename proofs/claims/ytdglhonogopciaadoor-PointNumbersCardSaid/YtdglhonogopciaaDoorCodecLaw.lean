/- What the reader gives back of what the writer wrote: plain lists. -/
import Derived.Test.YtdglhonogopciaaDoorReader
import Derived.Test.YtdglhonogopciaaDoorWriter
import Derived.Test.YtdglhonogopciaaDoorStr
namespace Go.Proofs.YtdglhonogopciaaDoor
open Go.RowKit

theorem num_cons (y : UInt8) (ys : List UInt8) : num (y :: ys) = y.toNat * 256 ^ ys.length + num ys := by
  have : ∀ (n : Nat) (ys : List UInt8), ys.foldl (fun n c => n * 256 + c.toNat) n = n * 256 ^ ys.length + ys.foldl (fun n c => n * 256 + c.toNat) 0 := by
    intro n ys
    induction ys generalizing n with
    | nil => simp
    | cons z zs ih =>
      rw [List.foldl_cons, ih, List.foldl_cons, ih (0 * 256 + z.toNat), List.length_cons, Nat.pow_succ]
      rw [show 0 * 256 + z.toNat = z.toNat by omega, Nat.add_mul, Nat.mul_assoc, Nat.mul_comm 256]
      omega
  rw [num, List.foldl_cons, this]
  simp [num]
theorem num_be (n k : Nat) : num (be n k) = n % 256 ^ k := by
  induction k with
  | zero => simp [be, num, Nat.mod_one]
  | succ k ih =>
    have h : n % 256 ^ (k + 1) = n % 256 ^ k + 256 ^ k * (n / 256 ^ k % 256) := by rw [Nat.pow_succ, Nat.mod_mul]
    rw [be, num_cons, ih, be_length, UInt8.toNat_ofNat', h, show (2 : Nat) ^ 8 = 256 from rfl, Nat.mul_comm, Nat.add_comm]
theorem rdRaw_errs (xs : List UInt8) (why : Nat) (n : Int) (h : why ≠ 0) : rdRaw (xs, why) n = ([], (xs, why)) := by
  unfold rdRaw; rw [if_pos h]
theorem rdRaw_app (xs ys : List UInt8) (n : Int) (h : n = xs.length) : rdRaw (xs ++ ys, 0) n = (xs, (ys, 0)) := by
  subst h
  unfold rdRaw
  simp only
  rw [if_neg (by simp), if_neg (by simp; omega)]
  by_cases h0 : ((xs.length : Nat) : Int) < 1
  · rw [if_pos h0]
    obtain rfl : xs = [] := by apply List.eq_nil_of_length_eq_zero; omega
    rfl
  · rw [if_neg h0]; simp
theorem rdRaw_few (xs : List UInt8) (n : Int) (h : (xs.length : Int) < n) : rdRaw (xs, 0) n = ([], (xs, 10)) := by
  unfold rdRaw
  simp only
  rw [if_neg (by simp), if_pos h]
theorem rdByte_be (n : Nat) (ys : List UInt8) : rdByte (be n 1 ++ ys, 0) = (n % 256, (ys, 0)) := by
  unfold rdByte; rw [rdRaw_app _ _ _ (by rw [be_length]; rfl), num_be]
theorem rdShort_be (n : Nat) (ys : List UInt8) : rdShort (be n 2 ++ ys, 0) = (n % 65536, (ys, 0)) := by
  unfold rdShort; rw [rdRaw_app _ _ _ (by rw [be_length]; rfl), num_be]
theorem rdLong_be (n : Nat) (ys : List UInt8) (h : n < 18446744073709551616) : rdLong (be n 8 ++ ys, 0) = (n, (ys, 0)) := by
  unfold rdLong; rw [rdRaw_app _ _ _ (by rw [be_length]; rfl), num_be, Nat.mod_eq_of_lt (by omega)]
theorem rdLong_few (xs : List UInt8) (h : xs.length < 8) : rdLong (xs, 0) = (0, (xs, 10)) := by
  unfold rdLong; rw [rdRaw_few _ _ (by omega)]; rfl
theorem rdByte_errs (xs : List UInt8) (why : Nat) (h : why ≠ 0) : rdByte (xs, why) = (0, (xs, why)) := by unfold rdByte; rw [rdRaw_errs _ _ _ h]; rfl
theorem rdShort_errs (xs : List UInt8) (why : Nat) (h : why ≠ 0) : rdShort (xs, why) = (0, (xs, why)) := by unfold rdShort; rw [rdRaw_errs _ _ _ h]; rfl
theorem rdLong_errs (xs : List UInt8) (why : Nat) (h : why ≠ 0) : rdLong (xs, why) = (0, (xs, why)) := by unfold rdLong; rw [rdRaw_errs _ _ _ h]; rfl
theorem rdBytes_errs (xs : List UInt8) (why : Nat) (h : why ≠ 0) : rdBytes (xs, why) = ([], (xs, why)) := by unfold rdBytes; rw [rdShort_errs _ _ h, rdRaw_errs _ _ _ h]
theorem fb_toNat (b : Bool) : (fb b).toNat = if b then 1 else 0 := by cases b <;> rfl
theorem rdRaw_one (y : UInt8) (ys : List UInt8) : rdRaw (y :: ys, 0) 1 = ([y], (ys, 0)) := rdRaw_app [y] ys 1 rfl
theorem rdFlag_ok (b : Bool) (ys : List UInt8) : rdFlag (fb b :: ys, 0) = (b, (ys, 0)) := by
  unfold rdFlag rdByte
  rw [rdRaw_one]
  cases b <;> rfl
theorem rdFlag_bad (y : UInt8) (ys : List UInt8) (h : 1 < y.toNat) : rdFlag (y :: ys, 0) = (false, (ys, 12)) := by
  unfold rdFlag rdByte
  rw [rdRaw_one]
  simp only
  rw [if_pos (by simpa [num] using h)]
theorem rdFlag_errs (xs : List UInt8) (why : Nat) (h : why ≠ 0) : rdFlag (xs, why) = (false, (xs, why)) := by
  unfold rdFlag rdByte
  rw [rdRaw_errs _ _ _ h]
  rfl
theorem rdBytes_app (xs ys : List UInt8) (h : xs.length ≤ 65535) : rdBytes (be xs.length 2 ++ xs ++ ys, 0) = (xs, (ys, 0)) := by
  unfold rdBytes
  rw [List.append_assoc, rdShort_be, Nat.mod_eq_of_lt (by omega)]
  exact rdRaw_app _ _ _ rfl
theorem Ext.next {p q : Nat} {rb : Option Nat} {w wr w' : World} {s : List UInt8 × Nat} (hE : Ext p w wr) (hP : RPost wr p q rb s w') : Ext p w w' ∧ Rd w' p q rb s.1 s.2 :=
  ⟨hE.to (hP.2.below hE.2 (fun _ _ hk => by subst hk; exact hP.1.1)), hP.1⟩
theorem own_none {w : World} {B : Nat} {v : Value} (h : Own w B v []) : ∃ a cap, v = .slice a 0 cap ∧ 0 ≤ cap := by
  obtain ⟨a, cap, rfl, _⟩ := h.bsn (n := 0) rfl
  exact ⟨a, cap, rfl, Nat.zero_le _⟩
end Go.Proofs.YtdglhonogopciaaDoor
