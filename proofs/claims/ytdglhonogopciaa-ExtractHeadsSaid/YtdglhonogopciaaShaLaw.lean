/- SHA-256 in plain Lean, on words and bytes: what the program's and the document's text compute; how blocks join. -/
import Derived.Test.YtdglhonogopciaaShaW
namespace Go.Proofs.Ytdglhonogopciaa
open Go.RowKit

structure S8 where
  a : UInt32
  b : UInt32
  c : UInt32
  d : UInt32
  e : UInt32
  f : UInt32
  g : UInt32
  h : UInt32
def S8.list (s : S8) : List UInt32 := [s.a, s.b, s.c, s.d, s.e, s.f, s.g, s.h]
def S8.t (s : S8) (k w : UInt32) : UInt32 := s.h + (rotr s.e 6 ^^^ rotr s.e 11 ^^^ rotr s.e 25) + (s.e &&& s.f ^^^ ~~~s.e &&& s.g) + k + w
def S8.u (s : S8) : UInt32 := (rotr s.a 2 ^^^ rotr s.a 13 ^^^ rotr s.a 22) + (s.a &&& s.b ^^^ s.a &&& s.c ^^^ s.b &&& s.c)
def S8.rnd (s : S8) (k w : UInt32) : S8 := ⟨s.t k w + s.u, s.a, s.b, s.c, s.d + s.t k w, s.e, s.f, s.g⟩
def S8.add (s r : S8) : S8 := ⟨s.a + r.a, s.b + r.b, s.c + r.c, s.d + r.d, s.e + r.e, s.f + r.f, s.g + r.g, s.h + r.h⟩

def word (b0 b1 b2 b3 : UInt8) : UInt32 := b3.toUInt32 ||| b2.toUInt32 <<< 8 ||| b1.toUInt32 <<< 16 ||| b0.toUInt32 <<< 24
def wordAt (b : List UInt8) (i : Nat) : UInt32 := word (b.getD (4 * i) 0) (b.getD (4 * i + 1) 0) (b.getD (4 * i + 2) 0) (b.getD (4 * i + 3) 0)
def sig0 (x : UInt32) : UInt32 := rotr x 7 ^^^ rotr x 18 ^^^ x >>> 3
def sig1 (x : UInt32) : UInt32 := rotr x 17 ^^^ rotr x 19 ^^^ x >>> 10
def nextW (l : List UInt32) (k : Nat) : UInt32 := l.getD (k - 16) 0 + sig0 (l.getD (k - 15) 0) + l.getD (k - 7) 0 + sig1 (l.getD (k - 2) 0)
/-- the first k of a block's 64 words -/
def sched (b : List UInt8) : Nat → List UInt32
  | 0 => []
  | k + 1 => sched b k ++ [if k < 16 then wordAt b k else nextW (sched b k) k]
theorem sched_length (b : List UInt8) (k : Nat) : (sched b k).length = k := by
  induction k with
  | zero => rfl
  | succ k ih => simp [sched, ih]
theorem sched_prefix (b : List UInt8) (k m i : Nat) (hk : k ≤ m) (hi : i < k) : (sched b m).getD i 0 = (sched b k).getD i 0 := by
  induction m with
  | zero => omega
  | succ m ih =>
    by_cases h : k = m + 1
    · subst h; rfl
    · rw [← ih (by omega)]
      simp only [sched, List.getD_eq_getElem?_getD]
      rw [List.getElem?_append_left (by rw [sched_length]; omega)]
/-- the words as they lie in the program's array while it is filled -/
def part64 (b : List UInt8) (k : Nat) : List UInt32 := sched b k ++ List.replicate (64 - k) 0
theorem part64_length (b : List UInt8) (k : Nat) (h : k ≤ 64) : (part64 b k).length = 64 := by simp [part64, sched_length]; omega
theorem part64_zero (b : List UInt8) : part64 b 0 = List.replicate 64 0 := rfl
theorem part64_full (b : List UInt8) : part64 b 64 = sched b 64 := by simp [part64]
theorem part64_at (b : List UInt8) (k i : Nat) (hi : i < k) : (part64 b k)[i]? = some ((sched b k).getD i 0) := by
  rw [part64, List.getElem?_append_left (by rw [sched_length]; omega), List.getD_eq_getElem?_getD, List.getElem?_eq_getElem (by rw [sched_length]; omega)]
  rfl
theorem part64_set (b : List UInt8) (k : Nat) (hk : k < 64) (x : UInt32) (hx : x = if k < 16 then wordAt b k else nextW (sched b k) k) : (part64 b k).set k x = part64 b (k + 1) := by
  subst hx
  rw [part64, List.set_append_right _ _ (by rw [sched_length]; omega), sched_length, Nat.sub_self, show 64 - k = (64 - (k + 1)) + 1 by omega, List.replicate_succ, List.set_cons_zero, part64, sched]
  simp
theorem nextW_sched (b : List UInt8) (k : Nat) : nextW (sched b k) k = (sched b k).getD (k - 16) 0 + sig0 ((sched b k).getD (k - 15) 0) + (sched b k).getD (k - 7) 0 + sig1 ((sched b k).getD (k - 2) 0) := rfl

def KK : List UInt32 := [
  0x428a2f98, 0x71374491, 0xb5c0fbcf, 0xe9b5dba5, 0x3956c25b, 0x59f111f1, 0x923f82a4, 0xab1c5ed5,
  0xd807aa98, 0x12835b01, 0x243185be, 0x550c7dc3, 0x72be5d74, 0x80deb1fe, 0x9bdc06a7, 0xc19bf174,
  0xe49b69c1, 0xefbe4786, 0x0fc19dc6, 0x240ca1cc, 0x2de92c6f, 0x4a7484aa, 0x5cb0a9dc, 0x76f988da,
  0x983e5152, 0xa831c66d, 0xb00327c8, 0xbf597fc7, 0xc6e00bf3, 0xd5a79147, 0x06ca6351, 0x14292967,
  0x27b70a85, 0x2e1b2138, 0x4d2c6dfc, 0x53380d13, 0x650a7354, 0x766a0abb, 0x81c2c92e, 0x92722c85,
  0xa2bfe8a1, 0xa81a664b, 0xc24b8b70, 0xc76c51a3, 0xd192e819, 0xd6990624, 0xf40e3585, 0x106aa070,
  0x19a4c116, 0x1e376c08, 0x2748774c, 0x34b0bcb5, 0x391c0cb3, 0x4ed8aa4a, 0x5b9cca4f, 0x682e6ff3,
  0x748f82ee, 0x78a5636f, 0x84c87814, 0x8cc70208, 0x90befffa, 0xa4506ceb, 0xbef9a3f7, 0xc67178f2]
def begunS : S8 := ⟨0x6a09e667, 0xbb67ae85, 0x3c6ef372, 0xa54ff53a, 0x510e527f, 0x9b05688c, 0x1f83d9ab, 0x5be0cd19⟩
/-- the first i rounds -/
def rnds (b : List UInt8) (s : S8) : Nat → S8
  | 0 => s
  | i + 1 => (rnds b s i).rnd (KK.getD i 0) ((sched b 64).getD i 0)
/-- a block is hashed, too -/
def comp (s : S8) (b : List UInt8) : S8 := s.add (rnds b s 64)
/-- n blocks -/
def blocks : Nat → S8 → List UInt8 → S8
  | 0, s, _ => s
  | n + 1, s, b => blocks n (comp s b) (b.drop 64)

theorem wordAt_congr {b c : List UInt8} (h : b.take 64 = c.take 64) (i : Nat) (hi : i < 16) : wordAt b i = wordAt c i := by
  have e : ∀ j, j < 64 → b.getD j 0 = c.getD j 0 := fun j hj => by
    have := congrArg (·[j]?) h
    simp only [List.getElem?_take, if_pos hj] at this
    rw [List.getD_eq_getElem?_getD, List.getD_eq_getElem?_getD, this]
  unfold wordAt
  rw [e _ (by omega), e _ (by omega), e _ (by omega), e _ (by omega)]
theorem sched_congr {b c : List UInt8} (h : b.take 64 = c.take 64) (k : Nat) : sched b k = sched c k := by
  induction k with
  | zero => rfl
  | succ k ih =>
    simp only [sched, ih]
    by_cases hk : k < 16
    · rw [if_pos hk, if_pos hk, wordAt_congr h k hk]
    · rw [if_neg hk, if_neg hk]
theorem rnds_congr {b c : List UInt8} (h : b.take 64 = c.take 64) (s : S8) (n : Nat) : rnds b s n = rnds c s n := by
  induction n with
  | zero => rfl
  | succ n ih => simp only [rnds, ih, sched_congr h]
theorem comp_congr {b c : List UInt8} (h : b.take 64 = c.take 64) (s : S8) : comp s b = comp s c := by unfold comp; rw [rnds_congr h]
theorem comp_take (s : S8) (b : List UInt8) : comp s (b.take 64) = comp s b := comp_congr (by rw [List.take_take]; rfl) s
/-- what lies behind the blocks does not matter -/
theorem blocks_append (n : Nat) (s : S8) (b c : List UInt8) (h : 64 * n ≤ b.length) : blocks n s (b ++ c) = blocks n s b := by
  induction n generalizing s b with
  | zero => rfl
  | succ n ih =>
    simp only [blocks]
    rw [comp_congr (c := b) (by rw [List.take_append_of_le_length (by omega)]), List.drop_append_of_le_length (by omega), ih _ _ (by rw [List.length_drop]; omega)]
theorem blocks_take (n : Nat) (s : S8) (b : List UInt8) (h : 64 * n ≤ b.length) : blocks n s (b.take (64 * n)) = blocks n s b := by
  conv => rhs; rw [← List.take_append_drop (64 * n) b]
  rw [blocks_append _ _ _ _ (by rw [List.length_take]; omega)]
theorem blocks_add (n m : Nat) (s : S8) (b : List UInt8) : blocks (n + m) s b = blocks m (blocks n s b) (b.drop (64 * n)) := by
  induction n generalizing s b with
  | zero => simp [blocks]
  | succ n ih =>
    rw [show n + 1 + m = (n + m) + 1 by omega]
    simp only [blocks]
    rw [ih, List.drop_drop, show 64 + 64 * n = 64 * (n + 1) by omega]
theorem blocks_one (s : S8) (b : List UInt8) : blocks 1 s b = comp s b := rfl

/-- what a stream of xs has hashed, and what it holds still -/
def hashed (xs : List UInt8) : S8 := blocks (xs.length / 64) begunS xs
def held (xs : List UInt8) : List UInt8 := xs.drop (64 * (xs.length / 64))
theorem held_length (xs : List UInt8) : (held xs).length = xs.length % 64 := by unfold held; rw [List.length_drop]; omega
/-- fewer bytes than a block lacks are held -/
theorem hashed_few (xs ys : List UInt8) (h : (held xs).length + ys.length < 64) : hashed (xs ++ ys) = hashed xs ∧ held (xs ++ ys) = held xs ++ ys := by
  rw [held_length] at h
  have e : (xs ++ ys).length / 64 = xs.length / 64 := by rw [List.length_append]; omega
  unfold hashed held
  rw [e, blocks_append _ _ _ _ (by omega), List.drop_append_of_le_length (by omega)]
  exact ⟨rfl, rfl⟩
/-- as many as it lacks fill it -/
theorem hashed_fill (xs ys : List UInt8) (h : (held xs).length + ys.length = 64) : hashed (xs ++ ys) = comp (hashed xs) (held xs ++ ys) ∧ held (xs ++ ys) = [] := by
  rw [held_length] at h
  have e : (xs ++ ys).length / 64 = xs.length / 64 + 1 := by rw [List.length_append]; omega
  constructor
  · unfold hashed held
    rw [e, blocks_add, blocks_one, blocks_append _ _ _ _ (by omega), List.drop_append_of_le_length (by omega)]
  · refine List.eq_nil_of_length_eq_zero ?_
    rw [held_length, List.length_append]; omega
theorem hashed_nil : hashed [] = begunS ∧ held [] = [] := ⟨rfl, rfl⟩

/-- what closes a message of n bytes that ends in r -/
def padTo (r : List UInt8) (n : Nat) : List UInt8 := r ++ [0x80] ++ List.replicate ((119 - r.length % 64) % 64) 0 ++ be8 n
where be8 (n : Nat) : List UInt8 := [UInt8.ofNat (8 * n / 72057594037927936), UInt8.ofNat (8 * n / 281474976710656), UInt8.ofNat (8 * n / 1099511627776), UInt8.ofNat (8 * n / 4294967296), UInt8.ofNat (8 * n / 16777216), UInt8.ofNat (8 * n / 65536), UInt8.ofNat (8 * n / 256), UInt8.ofNat (8 * n)]
theorem padTo_length (r : List UInt8) (n : Nat) : (padTo r n).length = 64 * ((padTo r n).length / 64) ∧ (padTo r n).length ≤ r.length + 72 := by
  have : (padTo r n).length = r.length + 1 + (119 - r.length % 64) % 64 + 8 := by simp [padTo, padTo.be8]; omega
  rw [this]; omega
def wbytes (x : UInt32) : List UInt8 := [UInt8.ofNat (x.toNat / 16777216), UInt8.ofNat (x.toNat / 65536), UInt8.ofNat (x.toNat / 256), UInt8.ofNat x.toNat]
def S8.bytes (s : S8) : List UInt8 := (s.list.map wbytes).flatten
/-- SHA-256 -/
def sha (xs : List UInt8) : List UInt8 := (blocks ((padTo xs xs.length).length / 64) begunS (padTo xs xs.length)).bytes
theorem S8.bytes_length (s : S8) : s.bytes.length = 32 := rfl
theorem sha_length (xs : List UInt8) : (sha xs).length = 32 := rfl
/-- as a stream closes it -/
theorem sha_held (xs : List UInt8) : sha xs = (blocks ((padTo (held xs) xs.length).length / 64) (hashed xs) (padTo (held xs) xs.length)).bytes := by
  have e : padTo xs xs.length = xs.take (64 * (xs.length / 64)) ++ padTo (held xs) xs.length := by
    have hm : (held xs).length % 64 = xs.length % 64 := by rw [held_length]; omega
    unfold padTo
    rw [hm]
    simp only [← List.append_assoc]
    rw [held, List.take_append_drop]
  have hl : (padTo xs xs.length).length / 64 = xs.length / 64 + (padTo (held xs) xs.length).length / 64 := by
    rw [e, List.length_append, List.length_take]
    have := (padTo_length (held xs) xs.length).1
    omega
  unfold sha
  rw [hl, blocks_add, e, blocks_append _ _ _ _ (by rw [List.length_take]; omega), blocks_take _ _ _ (by omega), List.drop_left' (by rw [List.length_take]; omega)]
  rfl
end Go.Proofs.Ytdglhonogopciaa
