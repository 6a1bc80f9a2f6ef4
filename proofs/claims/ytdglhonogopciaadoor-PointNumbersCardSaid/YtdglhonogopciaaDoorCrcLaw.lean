/- CRC-32 in plain Lean: it is linear, and up to four bytes in a row that are turned turn the sum. -/
import Derived.Test.YtdglhonogopciaaDoorCrcFns
namespace Go.Proofs.YtdglhonogopciaaDoor

theorem xor_half (a b : Nat) : (a ^^^ b) / 2 = a / 2 ^^^ b / 2 := Nat.xor_div_two_pow (n := 1)
theorem xor_par (a b : Nat) : (a ^^^ b) % 2 = (a % 2) ^^^ (b % 2) := Nat.xor_mod_two_pow (n := 1)

theorem crcStep_xor (a b : Nat) : crcStep (a ^^^ b) = crcStep a ^^^ crcStep b := by
  unfold crcStep
  rw [xor_half, xor_par]
  rcases Nat.mod_two_eq_zero_or_one a with ha | ha <;> rcases Nat.mod_two_eq_zero_or_one b with hb | hb <;> rw [ha, hb]
  · simp
  · simp [Nat.xor_assoc]
  · simp only [Nat.xor_zero, if_true, Nat.zero_ne_one, if_false]
    rw [Nat.xor_assoc, Nat.xor_comm (b / 2), Nat.xor_assoc]
  · simp only [Nat.xor_self, Nat.zero_ne_one, if_false, if_true]
    rw [Nat.xor_assoc, ← Nat.xor_assoc 3988292384, Nat.xor_comm 3988292384 (b / 2), Nat.xor_assoc (b / 2), Nat.xor_self, Nat.xor_zero]

theorem crcBits_xor (n a b : Nat) : crcBits n (a ^^^ b) = crcBits n a ^^^ crcBits n b := by
  induction n with
  | zero => rfl
  | succ n ih => simp only [crcBits]; rw [ih, crcStep_xor]

theorem crcBits_add (n m c : Nat) : crcBits (n + m) c = crcBits n (crcBits m c) := by
  induction n with
  | zero => simp [crcBits]
  | succ n ih => rw [Nat.add_right_comm]; simp only [crcBits]; rw [ih]

theorem crcStep_zero {c : Nat} (h : c < 4294967296) (h0 : crcStep c = 0) : c = 0 := by
  unfold crcStep at h0
  split at h0
  · rename_i hp
    have h1 : c / 2 = 3988292384 := by
      have := congrArg (· ^^^ 3988292384) h0
      simpa [Nat.xor_assoc] using this
    omega
  · omega
theorem crcBits_zero {n c : Nat} (h : c < 4294967296) (h0 : crcBits n c = 0) : c = 0 := by
  induction n with
  | zero => exact h0
  | succ n ih => exact ih (crcStep_zero (crcBits_lt h) h0)
theorem xor_eq_zero {a b : Nat} (h : a ^^^ b = 0) : a = b := by
  have := congrArg (· ^^^ b) h
  simpa [Nat.xor_assoc] using this
theorem crcBits_inj {n a b : Nat} (ha : a < 4294967296) (hb : b < 4294967296) (h : crcBits n a = crcBits n b) : a = b := by
  refine xor_eq_zero (crcBits_zero (n := n) (Nat.xor_lt_two_pow (n := 32) ha hb) ?_)
  rw [crcBits_xor, h, Nat.xor_self]

theorem crcBits_nil (n : Nat) : crcBits n 0 = 0 := by
  induction n with
  | zero => rfl
  | succ n ih => simp only [crcBits]; rw [ih]; rfl

theorem crcFold_cons (c : Nat) (x : UInt8) (xs : List UInt8) : crcFold c (x :: xs) = crcFold (crcByte c x) xs := by simp only [crcFold, List.foldl_cons]
theorem crcFold_append (c : Nat) (xs ys : List UInt8) : crcFold c (xs ++ ys) = crcFold (crcFold c xs) ys := by simp [crcFold]

theorem crcByte_inj {a b : Nat} (x : UInt8) (ha : a < 4294967296) (hb : b < 4294967296) (h : crcByte a x = crcByte b x) : a = b := by
  have hx : x.toNat < 4294967296 := by have := x.toNat_lt; omega
  have h1 := crcBits_inj (Nat.xor_lt_two_pow (n := 32) ha hx) (Nat.xor_lt_two_pow (n := 32) hb hx) h
  have := congrArg (· ^^^ x.toNat) h1
  simpa [Nat.xor_assoc] using this
theorem crcFold_inj {a b : Nat} (xs : List UInt8) (ha : a < 4294967296) (hb : b < 4294967296) (h : crcFold a xs = crcFold b xs) : a = b := by
  induction xs generalizing a b with
  | nil => exact h
  | cons x xs ih => exact crcByte_inj x ha hb (ih (crcByte_lt x ha) (crcByte_lt x hb) h)

theorem crcByte_xor (a b : Nat) (x y : UInt8) : crcByte (a ^^^ b) (x ^^^ y) = crcByte a x ^^^ crcByte b y := by
  unfold crcByte
  rw [← crcBits_xor]
  congr 1
  rw [UInt8.toNat_xor, Nat.xor_assoc, Nat.xor_assoc, ← Nat.xor_assoc b, Nat.xor_comm b x.toNat, Nat.xor_assoc]
theorem crcFold_xor (a b : Nat) (xs ys : List UInt8) (h : xs.length = ys.length) : crcFold (a ^^^ b) (List.zipWith (· ^^^ ·) xs ys) = crcFold a xs ^^^ crcFold b ys := by
  induction xs generalizing a b ys with
  | nil => cases ys with
    | nil => rfl
    | cons y ys => simp at h
  | cons x xs ih => cases ys with
    | nil => simp at h
    | cons y ys =>
      simp only [List.zipWith_cons_cons, crcFold_cons, crcByte_xor]
      exact ih _ _ _ (by simpa using h)

/-- bytes as one number, the first one lowest -/
def comb : List UInt8 → Nat
  | [] => 0
  | t :: ts => t.toNat ^^^ (256 * comb ts)
theorem comb_lt (ts : List UInt8) : comb ts < 256 ^ ts.length := by
  induction ts with
  | nil => simp [comb]
  | cons t ts ih =>
    have h1 : t.toNat < 256 := t.toNat_lt
    have e : 256 ^ (ts.length + 1) = 2 ^ (8 * (ts.length + 1)) := by rw [Nat.pow_mul]
    simp only [comb, List.length_cons, e]
    have h2 : (256 : Nat) ^ ts.length ≥ 1 := Nat.one_le_pow _ _ (by omega)
    have e2 : 2 ^ (8 * (ts.length + 1)) = 256 * 256 ^ ts.length := by rw [← e, Nat.pow_succ, Nat.mul_comm]
    exact Nat.xor_lt_two_pow (by rw [e2]; omega) (by rw [e2]; omega)
theorem comb_zero {ts : List UInt8} (h : comb ts = 0) : ∀ t ∈ ts, t = 0 := by
  induction ts with
  | nil => simp
  | cons t ts ih =>
    have h1 := xor_eq_zero h
    have h2 : t.toNat < 256 := t.toNat_lt
    intro u hu
    rcases List.mem_cons.1 hu with rfl | hu
    · exact UInt8.toNat_inj.1 (by simp; omega)
    · exact ih (by omega) u hu

theorem crcStep_even (z : Nat) : crcStep (2 * z) = z := by unfold crcStep; rw [if_neg (by omega)]; omega
theorem crcBits_shift (n z : Nat) : crcBits n (2 ^ n * z) = z := by
  induction n generalizing z with
  | zero => simp [crcBits]
  | succ n ih =>
    simp only [crcBits]
    rw [Nat.pow_succ, Nat.mul_assoc, ih, crcStep_even]

theorem crcFold_comb (d : Nat) (ts : List UInt8) : crcFold d ts = crcBits (8 * ts.length) (d ^^^ comb ts) := by
  induction ts generalizing d with
  | nil => simp [crcFold, comb, crcBits]
  | cons t ts ih =>
    rw [crcFold_cons, ih, List.length_cons, Nat.mul_succ, crcBits_add]
    congr 1
    unfold crcByte
    show _ = crcBits 8 (d ^^^ (t.toNat ^^^ 256 * comb ts))
    rw [← Nat.xor_assoc, crcBits_xor 8 _ (256 * comb ts)]
    congr 1
    exact (crcBits_shift 8 (comb ts)).symm

/-- four bytes at most: no sum but that of noughts is nought -/
theorem crcFold_nought {ts : List UInt8} (hl : ts.length ≤ 4) (h : crcFold 0 ts = 0) : ∀ t ∈ ts, t = 0 := by
  rw [crcFold_comb, Nat.zero_xor] at h
  have h1 := comb_lt ts
  have h2 : (256 : Nat) ^ ts.length ≤ 256 ^ 4 := Nat.pow_le_pow_right (by omega) hl
  exact comb_zero (crcBits_zero (by omega) h)
theorem crcFold_noughts {ts : List UInt8} (h : ∀ t ∈ ts, t = 0) : crcFold 0 ts = 0 := by
  induction ts with
  | nil => rfl
  | cons t ts ih =>
    have := h t (by simp)
    subst this
    exact ih (fun u hu => h u (by simp [hu]))

/-- m bytes from k on, turned -/
def turned (xs : List UInt8) (k : Nat) (ts : List UInt8) (m : Nat) : List UInt8 :=
  xs.take k ++ (List.zipWith (· ^^^ ·) ((xs.drop k).take m) (ts.take m) ++ xs.drop (k + m))
theorem turned_zero (xs : List UInt8) (k : Nat) (ts : List UInt8) : turned xs k ts 0 = xs := by simp [turned]
theorem turned_length (xs : List UInt8) (k : Nat) (ts : List UInt8) (m : Nat) (h1 : k + m ≤ xs.length) (h2 : m ≤ ts.length) : (turned xs k ts m).length = xs.length := by
  simp [turned]; omega
theorem turned_get (xs : List UInt8) (k : Nat) (ts : List UInt8) (m : Nat) (h1 : k + m ≤ xs.length) (h2 : m ≤ ts.length) (i : Nat) (hi : i < xs.length) :
    (turned xs k ts m)[i]'(by rw [turned_length _ _ _ _ h1 h2]; exact hi) = if h : k ≤ i ∧ i < k + m then xs[i] ^^^ ts[i - k]'(by omega) else xs[i] := by
  unfold turned
  rw [List.getElem_append]
  split
  · rename_i h; simp at h; rw [dif_neg (by omega)]; simp
  · rename_i h; simp at h
    rw [List.getElem_append]
    split
    · rename_i h'; simp at h'; rw [dif_pos (by omega)]; simp [show min k xs.length = k by omega, show k + (i - k) = i by omega]
    · rename_i h'; simp at h'
      have e : k + m + (i - (xs.take k).length - (List.zipWith (· ^^^ ·) ((xs.drop k).take m) (ts.take m)).length) = i := by simp; omega
      rw [dif_neg (by omega), List.getElem_drop]
      congr 1
theorem turned_succ (xs : List UInt8) (k : Nat) (ts : List UInt8) (m : Nat) (h1 : k + m < xs.length) (h2 : m < ts.length) :
    turned xs k ts (m + 1) = (turned xs k ts m).set (k + m) (xs[k + m] ^^^ ts[m]) := by
  have l1 := turned_length xs k ts m (by omega) (by omega)
  have l2 := turned_length xs k ts (m + 1) (by omega) (by omega)
  refine List.ext_getElem (by simp [l1, l2]) fun i hi1 hi2 => ?_
  rw [l2] at hi1
  rw [turned_get _ _ _ _ (by omega) (by omega) i hi1, List.getElem_set, turned_get _ _ _ _ (by omega) (by omega) i hi1]
  by_cases h : k + m = i
  · subst h; rw [dif_pos (by omega), if_pos rfl]; simp
  · rw [if_neg h]
    by_cases h' : k ≤ i ∧ i < k + m
    · rw [dif_pos (by omega), dif_pos h']
    · rw [dif_neg (by omega), dif_neg h']

theorem crc_turned (xs : List UInt8) (k : Nat) (ts : List UInt8) (m : Nat) (h1 : k + m ≤ xs.length) (h2 : m ≤ ts.length) (h4 : m ≤ 4) :
    crcMore 0 (turned xs k ts m) = crcMore 0 xs ↔ ∀ t ∈ ts.take m, t = 0 := by
  have e : xs = xs.take k ++ ((xs.drop k).take m ++ xs.drop (k + m)) := by
    rw [← List.drop_drop, List.take_append_drop, List.take_append_drop]
  have hd : (4294967295 : Nat) - 0 < 4294967296 := by omega
  have e1 : crcFold 4294967295 xs = crcFold (crcFold (crcFold 4294967295 (xs.take k)) ((xs.drop k).take m)) (xs.drop (k + m)) := by
    conv => lhs; rw [e]
    rw [crcFold_append, crcFold_append]
  have e2 : crcFold 4294967295 (turned xs k ts m) = crcFold (crcFold (crcFold 4294967295 (xs.take k)) ((xs.drop k).take m) ^^^ crcFold 0 (ts.take m)) (xs.drop (k + m)) := by
    unfold turned
    rw [crcFold_append, crcFold_append, ← crcFold_xor _ _ _ _ (by simp; omega), Nat.xor_zero]
  have b1 := crcFold_lt (xs.take k) hd
  have b2 := crcFold_lt ((xs.drop k).take m) b1
  have b3 := crcFold_lt (ts.take m) (show 0 < 4294967296 by omega)
  have b4 := crcFold_lt xs hd
  have b5 := crcFold_lt (turned xs k ts m) hd
  have b6 : crcFold (crcFold 4294967295 (xs.take k)) ((xs.drop k).take m) ^^^ crcFold 0 (ts.take m) < 4294967296 := Nat.xor_lt_two_pow (n := 32) b2 b3
  constructor
  · intro h
    refine crcFold_nought (by simp; omega) ?_
    have h' : crcFold 4294967295 (turned xs k ts m) = crcFold 4294967295 xs := by unfold crcMore at h; simp at h b4 b5; omega
    rw [e1, e2] at h'
    have h'' := crcFold_inj _ b6 b2 h'
    have := congrArg (crcFold (crcFold 4294967295 (xs.take k)) ((xs.drop k).take m) ^^^ ·) h''
    simpa [← Nat.xor_assoc] using this
  · intro h
    unfold crcMore
    congr 1
    show crcFold 4294967295 _ = crcFold 4294967295 _
    rw [e1, e2, crcFold_noughts h, Nat.xor_zero]

/-- the first m are noughts -/
def allz (ts : List UInt8) (m : Nat) : Bool := (ts.take m).all (· == 0)
theorem allz_zero (ts : List UInt8) : allz ts 0 = true := by simp [allz]
theorem allz_succ (ts : List UInt8) (m : Nat) (h : m < ts.length) : allz ts (m + 1) = (allz ts m && ts[m] == 0) := by
  rw [allz, allz, take_snoc ts m h, List.all_append]; simp
theorem allz_iff (ts : List UInt8) (m : Nat) : allz ts m = true ↔ ∀ t ∈ ts.take m, t = 0 := by simp [allz]

/-- of three rows of one length and the one that they make together -/
theorem crc_linear (a b c : List UInt8) (h1 : a.length = b.length) (h2 : a.length = c.length) :
    crcMore 0 a ^^^ crcMore 0 b ^^^ crcMore 0 c = crcMore 0 (List.zipWith (· ^^^ ·) (List.zipWith (· ^^^ ·) a b) c) := by
  have hd : (4294967295 : Nat) < 4294967296 := by omega
  have e : ∀ xs : List UInt8, crcMore 0 xs = 4294967295 ^^^ crcFold 4294967295 xs := fun xs => by
    rw [nat_not32 _ (crcFold_lt xs hd)]; rfl
  have l := crcFold_xor (4294967295 ^^^ 4294967295) 4294967295 (List.zipWith (· ^^^ ·) a b) c (by simp; omega)
  rw [crcFold_xor _ _ _ _ h1] at l
  have z : 4294967295 ^^^ 4294967295 ^^^ 4294967295 = 4294967295 := by decide
  rw [z] at l
  rw [e, e, e, e, l]
  generalize crcFold 4294967295 a = x
  generalize crcFold 4294967295 b = y
  generalize crcFold 4294967295 c = v
  generalize 4294967295 = k
  have h0 : k ^^^ x ^^^ (k ^^^ y) = x ^^^ y := by
    rw [Nat.xor_comm k x, Nat.xor_assoc, ← Nat.xor_assoc k k, Nat.xor_self, Nat.zero_xor]
  rw [h0, ← Nat.xor_assoc, Nat.xor_comm _ k, Nat.xor_assoc k, Nat.xor_assoc]

end Go.Proofs.YtdglhonogopciaaDoor
