/- CRC-32 in plain Lean, on naturals: no program in sight. -/
import Derived.Test.YtdglhonogopciaaDoorBase
namespace Go.Proofs.YtdglhonogopciaaDoor

def crcStep (c : Nat) : Nat := if c % 2 = 1 then (c / 2) ^^^ 3988292384 else c / 2
def crcBits : Nat → Nat → Nat
  | 0, c => c
  | n + 1, c => crcStep (crcBits n c)
def crcByte (c : Nat) (x : UInt8) : Nat := crcBits 8 (c ^^^ x.toNat)
def crcFold (c : Nat) (xs : List UInt8) : Nat := xs.foldl crcByte c
/-- the sum of what c is the sum of, and more bytes -/
def crcMore (c : Nat) (xs : List UInt8) : Nat := 4294967295 - crcFold (4294967295 - c) xs

theorem crcStep_lt {c : Nat} (h : c < 4294967296) : crcStep c < 4294967296 := by
  unfold crcStep; split
  · exact Nat.xor_lt_two_pow (n := 32) (by omega) (by omega)
  · omega
theorem crcBits_lt {n c : Nat} (h : c < 4294967296) : crcBits n c < 4294967296 := by
  induction n with
  | zero => exact h
  | succ n ih => exact crcStep_lt ih
theorem crcByte_lt {c : Nat} (x : UInt8) (h : c < 4294967296) : crcByte c x < 4294967296 :=
  crcBits_lt (Nat.xor_lt_two_pow (n := 32) h (by have := x.toNat_lt; omega))
theorem crcFold_lt {c : Nat} (xs : List UInt8) (h : c < 4294967296) : crcFold c xs < 4294967296 := by
  unfold crcFold
  induction xs generalizing c with
  | nil => exact h
  | cons x xs ih => exact ih (crcByte_lt x h)
theorem crcMore_lt (c : Nat) (xs : List UInt8) : crcMore c xs < 4294967296 := by unfold crcMore; omega

theorem take_snoc {α} (s : List α) (k : Nat) (h : k < s.length) : s.take (k + 1) = s.take k ++ [s[k]] := by
  rw [List.take_succ_eq_append_getElem h]
theorem crcFold_snoc (c : Nat) (xs : List UInt8) (x : UInt8) : crcFold c (xs ++ [x]) = crcByte (crcFold c xs) x := by simp [crcFold]
theorem crcMore_append (c : Nat) (h : c < 4294967296) (xs ys : List UInt8) : crcMore (crcMore c xs) ys = crcMore c (xs ++ ys) := by
  have := crcFold_lt xs (show 4294967295 - c < 4294967296 by omega)
  unfold crcMore
  rw [show 4294967295 - (4294967295 - crcFold (4294967295 - c) xs) = crcFold (4294967295 - c) xs by omega]
  simp [crcFold]

theorem nat_not32 (c : Nat) (h : c < 4294967296) : 4294967295 ^^^ c = 4294967295 - c := by
  have h1 : (BitVec.allOnes 32 ^^^ BitVec.ofNat 32 c) = ~~~ (BitVec.ofNat 32 c) := by
    rw [BitVec.xor_comm, BitVec.xor_allOnes]
  have h2 := congrArg BitVec.toNat h1
  rw [BitVec.toNat_xor, BitVec.toNat_not, BitVec.toNat_ofNat, BitVec.toNat_allOnes, Nat.mod_eq_of_lt (by omega)] at h2
  simpa using h2
theorem not_u32 (c : Nat) (h : c < 4294967296) : bits .xor .u32 IntKind.u32.max (c : Int) = ((4294967295 - c : Nat) : Int) := by
  have : IntKind.u32.max = ((4294967295 : Nat) : Int) := by decide
  rw [this, u32_xor_nat _ _ (by omega) h, nat_not32 c h]
theorem notr_u32 (c : Nat) (h : c < 4294967296) : bits .xor .u32 (c : Int) 4294967295 = ((4294967295 - c : Nat) : Int) := by
  have := u32_xor_nat c 4294967295 h (by omega)
  rw [Nat.xor_comm, nat_not32 c h] at this
  simpa using this
theorem and1_u32 (c : Nat) (h : c < 4294967296) : bits .and .u32 (c : Int) 1 = ((c % 2 : Nat) : Int) := by
  have := u32_and_nat c 1 h (by omega)
  rw [Nat.and_one_is_mod] at this
  simpa using this

theorem crc_run : crcMore 0 [49, 50, 51, 52, 53, 54, 55, 56, 57] = 3421780262 := by decide +kernel

end Go.Proofs.YtdglhonogopciaaDoor
