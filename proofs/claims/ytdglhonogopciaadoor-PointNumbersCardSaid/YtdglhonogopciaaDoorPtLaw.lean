/- Checkpoints in plain Lean: what is written, what is read, and that it comes back. -/
import Derived.Test.YtdglhonogopciaaDoorCodecLaw
import Derived.Test.YtdglhonogopciaaDoorCrcLaw
import Derived.Test.YtdglhonogopciaaDoorCrc
import Derived.Test.YtdglhonogopciaaDoorShaLaw
import Derived.Test.YtdglhonogopciaaDoorLayPlan
namespace Go.Proofs.YtdglhonogopciaaDoor
open Go.RowKit

/-- a number is its bytes -/
theorem pt_be_low (a b k : Nat) : be (a * 256 ^ k + b) k = be b k := by
  have : ∀ (a k m : Nat), k ≤ m → be (a * 256 ^ m + b) k = be b k := by
    intro a k
    induction k with
    | zero => intros; rfl
    | succ k ih =>
      intro m hm
      rw [be, be, ih m (by omega)]
      congr 1
      apply UInt8.toNat_inj.1
      rw [UInt8.toNat_ofNat', UInt8.toNat_ofNat']
      obtain ⟨d, rfl⟩ : ∃ d, m = k + 1 + d := ⟨m - (k + 1), by omega⟩
      rw [show a * 256 ^ (k + 1 + d) + b = b + 256 ^ k * (256 * (a * 256 ^ d)) by rw [Nat.pow_add, Nat.pow_succ]; ac_rfl]
      rw [Nat.add_mul_div_left _ _ (Nat.pow_pos (by decide)), show (2 : Nat) ^ 8 = 256 from rfl, Nat.add_mul_mod_self_left]
  exact this a k k (Nat.le_refl _)
theorem pt_be_num (ys : List UInt8) : be (num ys) ys.length = ys := by
  induction ys with
  | nil => rfl
  | cons y ys ih =>
    have hl := num_lt ys
    rw [num_cons, List.length_cons, be, pt_be_low, ih]
    congr 1
    apply UInt8.toNat_inj.1
    rw [UInt8.toNat_ofNat', Nat.mul_comm, Nat.mul_add_div (Nat.pow_pos (by decide)), Nat.div_eq_of_lt hl, Nat.add_zero]
    exact Nat.mod_eq_of_lt y.toNat_lt
/-- a right node is read again -/
theorem pt_xor_ne (x t : UInt8) (ht : t ≠ 0) : x ≠ x ^^^ t := fun h => ht (by
  have h2 := congrArg (x ^^^ ·) h
  simp only [← UInt8.xor_assoc, UInt8.xor_self, UInt8.zero_xor] at h2
  exact h2.symm)

def MT : Nat := 1099511627776
/-- a mark -/
structure Mk where
  gen : Nat
  seq : Nat
  seg : Int
  head : List UInt8
  state : List UInt8
def Mk.zero : Mk := ⟨0, 0, 0, [], []⟩
def ptHead (G Q S : Nat) (H : List UInt8) (N : Nat) : List UInt8 := be G 8 ++ (be Q 8 ++ (be S 2 ++ (H ++ be N 8)))
def ptImg (G Q S : Nat) (H : List UInt8) (N c : Nat) (h rest : List UInt8) : List UInt8 := ptHead G Q S H N ++ (be (c / 65536) 2 ++ (be c 2 ++ (h ++ rest)))
theorem ptHead_length (G Q S : Nat) (H : List UInt8) (N : Nat) (h : H.length = 32) : (ptHead G Q S H N).length = 58 := by simp [ptHead, be_length, h]
theorem ptImg_length (G Q S : Nat) (H : List UInt8) (N c : Nat) (h rest : List UInt8) (h1 : H.length = 32) (h2 : h.length = 32) : (ptImg G Q S H N c h rest).length = 94 + rest.length := by
  simp [ptImg, ptHead_length _ _ _ _ _ h1, be_length, h2]; omega
/-- may it be, but for its room -/
def Mk.right (m : Mk) (g : Int) : Prop := 1 ≤ m.gen ∧ m.gen ≤ MT ∧ m.seq ≤ MT ∧ 0 ≤ m.seg ∧ m.seg ≤ g ∧ m.head.length = 32
instance (m : Mk) (g : Int) : Decidable (m.right g) := by unfold Mk.right; infer_instance
instance (s p g : Int) : Decidable (isPlan s p g) := by unfold isPlan; infer_instance
def ptRoom (s p g : Int) : Int := if isPlan s p g then 128 * p - 94 else 0
def ptBytes (p : Nat) (m : Mk) : List UInt8 := ptImg m.gen m.seq m.seg.toNat m.head m.state.length (crcMore 0 (ptHead m.gen m.seq m.seg.toNat m.head m.state.length)) (sha m.state) (m.state ++ List.replicate (128 * p - 94 - m.state.length) 0)
def ptEnc (s p g : Int) (m : Mk) : List UInt8 × Nat :=
  if ¬ isPlan s p g then ([], 1) else if ¬ m.right g then ([], 12) else if 128 * p - 94 < (m.state.length : Int) then ([], 15) else (ptBytes p.toNat m, 0)
def noughts (l : List UInt8) : Bool := l.all (· == 0)
/-- why an image is not read; 0: it is -/
def ptWhy (p g : Int) (G Q S : Nat) (H : List UInt8) (N c : Nat) (h rest : List UInt8) : Nat :=
  if c ≠ crcMore 0 (ptHead G Q S H N) then 14
  else if ¬ (1 ≤ G ∧ G ≤ MT ∧ Q ≤ MT ∧ (S : Int) ≤ g ∧ (N : Int) ≤ 128 * p - 94 ∧ noughts (rest.drop N) = true) then 12
  else if sha (rest.take N) ≠ h then 40 else 0
def ptMk (why G Q S : Nat) (H : List UInt8) (N : Nat) (rest : List UInt8) : Mk := if why = 0 then ⟨G, Q, S, H, rest.take N⟩ else Mk.zero

theorem u64_lt (ys : List UInt8) (k : Nat) (h : ys.length = k) : num ys < 256 ^ k := by
  have := num_be (num ys) ys.length
  rw [pt_be_num] at this
  rw [this, h]
  exact Nat.mod_lt _ (Nat.pos_of_ne_zero (by simp))
theorem be_split (xs : List UInt8) (k : Nat) (h : k ≤ xs.length) : ∃ n ys, n < 256 ^ k ∧ xs = be n k ++ ys ∧ ys.length = xs.length - k := by
  refine ⟨num (xs.take k), xs.drop k, u64_lt _ _ (by simp; omega), ?_, by simp⟩
  have := pt_be_num (xs.take k)
  rw [List.length_take, Nat.min_eq_left h] at this
  rw [this, List.take_append_drop]
theorem row_split (xs : List UInt8) (k : Nat) (h : k ≤ xs.length) : ∃ H ys, H.length = k ∧ xs = H ++ ys ∧ ys.length = xs.length - k :=
  ⟨xs.take k, xs.drop k, by simp; omega, (List.take_append_drop _ _).symm, by simp⟩
theorem be_halves (c1 c2 : Nat) (h2 : c2 < 65536) : be ((c1 * 65536 + c2) / 65536) 2 = be c1 2 ∧ be (c1 * 65536 + c2) 2 = be c2 2 := by
  constructor
  · rw [show (c1 * 65536 + c2) / 65536 = c1 by omega]
  · exact pt_be_low c1 c2 2
theorem pt_split (xs : List UInt8) (hl : 94 ≤ xs.length) : ∃ G Q S H N c h rest, G < 18446744073709551616 ∧ Q < 18446744073709551616 ∧ S < 65536 ∧ H.length = 32 ∧ N < 18446744073709551616 ∧ c < 4294967296 ∧ h.length = 32 ∧ rest.length = xs.length - 94 ∧ xs = ptImg G Q S H N c h rest := by
  obtain ⟨G, y1, hG, e1, l1⟩ := be_split xs 8 (by omega)
  obtain ⟨Q, y2, hQ, e2, l2⟩ := be_split y1 8 (by omega)
  obtain ⟨S, y3, hS, e3, l3⟩ := be_split y2 2 (by omega)
  obtain ⟨H, y4, hH, e4, l4⟩ := row_split y3 32 (by omega)
  obtain ⟨N, y5, hN, e5, l5⟩ := be_split y4 8 (by omega)
  obtain ⟨c1, y6, hc1, e6, l6⟩ := be_split y5 2 (by omega)
  obtain ⟨c2, y7, hc2, e7, l7⟩ := be_split y6 2 (by omega)
  obtain ⟨h, y8, hh, e8, l8⟩ := row_split y7 32 (by omega)
  obtain ⟨b1, b2⟩ := be_halves c1 c2 hc2
  refine ⟨G, Q, S, H, N, c1 * 65536 + c2, h, y8, hG, hQ, hS, hH, hN, by omega, hh, by omega, ?_⟩
  unfold ptImg ptHead
  rw [b1, b2, e1, e2, e3, e4, e5, e6, e7, e8]
  simp only [List.append_assoc]

theorem be_inj (a b k : Nat) (ha : a < 256 ^ k) (hb : b < 256 ^ k) (h : be a k = be b k) : a = b := by
  have := congrArg num h
  rw [num_be, num_be, Nat.mod_eq_of_lt ha, Nat.mod_eq_of_lt hb] at this
  exact this
/-- the parts of an image -/
theorem ptImg_inj {G Q S N c G' Q' S' N' c' : Nat} {H h r H' h' r' : List UInt8} (l1 : H.length = 32) (l2 : H'.length = 32) (l3 : h.length = 32) (l4 : h'.length = 32) (hc : c < 4294967296) (hc' : c' < 4294967296)
    (e : ptImg G Q S H N c h r = ptImg G' Q' S' H' N' c' h' r') : ptHead G Q S H N = ptHead G' Q' S' H' N' ∧ c = c' ∧ h = h' ∧ r = r' := by
  unfold ptImg at e
  obtain ⟨e1, e2⟩ := List.append_inj e (by rw [ptHead_length _ _ _ _ _ l1, ptHead_length _ _ _ _ _ l2])
  obtain ⟨e3, e4⟩ := List.append_inj e2 (by rw [be_length, be_length])
  obtain ⟨e5, e6⟩ := List.append_inj e4 (by rw [be_length, be_length])
  obtain ⟨e7, e8⟩ := List.append_inj e6 (by rw [l3, l4])
  refine ⟨e1, ?_, e7, e8⟩
  have g1 := be_inj _ _ 2 (by omega) (by omega) e3
  have g2 := congrArg num e5
  rw [num_be, num_be] at g2
  omega
theorem ptHead_inj {G Q S N G' Q' S' N' : Nat} {H H' : List UInt8} (l1 : H.length = 32) (l2 : H'.length = 32) (a1 : G < 18446744073709551616) (a2 : Q < 18446744073709551616) (a3 : S < 65536) (a4 : N < 18446744073709551616)
    (b1 : G' < 18446744073709551616) (b2 : Q' < 18446744073709551616) (b3 : S' < 65536) (b4 : N' < 18446744073709551616) (e : ptHead G Q S H N = ptHead G' Q' S' H' N') : G = G' ∧ Q = Q' ∧ S = S' ∧ H = H' ∧ N = N' := by
  unfold ptHead at e
  obtain ⟨e1, e⟩ := List.append_inj e (by rw [be_length, be_length])
  obtain ⟨e2, e⟩ := List.append_inj e (by rw [be_length, be_length])
  obtain ⟨e3, e⟩ := List.append_inj e (by rw [be_length, be_length])
  obtain ⟨e4, e5⟩ := List.append_inj e (by rw [l1, l2])
  exact ⟨be_inj _ _ 8 a1 b1 e1, be_inj _ _ 8 a2 b2 e2, be_inj _ _ 2 a3 b3 e3, e4, be_inj _ _ 8 a4 b4 e5⟩

theorem noughts_replicate (k : Nat) : noughts (List.replicate k 0) = true := by
  unfold noughts; rw [List.all_eq_true]; intro x hx; rw [List.eq_of_mem_replicate hx]; rfl
/-- what is written is read -/
theorem ptWhy_ok (p g : Int) (m : Mk) (hr : m.right g) (hp : (m.state.length : Int) ≤ 128 * p - 94) (c : Nat) (hc : c = crcMore 0 (ptHead m.gen m.seq m.seg.toNat m.head m.state.length)) :
    ptWhy p g m.gen m.seq m.seg.toNat m.head m.state.length c (sha m.state) (m.state ++ List.replicate (128 * p.toNat - 94 - m.state.length) 0) = 0 := by
  obtain ⟨h1, h2, h3, h4, h5, h6⟩ := hr
  unfold ptWhy
  rw [if_neg (by simp [hc]), if_neg, if_neg]
  · simp
  · simp only [Classical.not_not]
    exact ⟨h1, h2, h3, by omega, hp, by rw [List.drop_left]; exact noughts_replicate _⟩
theorem noughts_set (k i : Nat) (t : UInt8) (hi : i < k) (ht : t ≠ 0) : noughts ((List.replicate k (0 : UInt8)).set i (0 ^^^ t)) = false := by
  unfold noughts
  rw [List.all_eq_false]
  refine ⟨0 ^^^ t, ?_, by simp [ht]⟩
  rw [List.mem_iff_getElem]
  exact ⟨i, by simpa using hi, by simp⟩
/-- one byte turned: it is not read, but where the turned state has the same hash -/
theorem pt_turned (p g : Int) (m : Mk) (hr : m.right g) (hg : g ≤ 65535) (hp : (m.state.length : Int) ≤ 128 * p - 94) (hp2 : 128 * p < 1000000)
    (i : Nat) (x t : UInt8) (hx : (ptBytes p.toNat m)[i]? = some x) (ht : t ≠ 0)
    (G Q S N c : Nat) (H h rest : List UInt8) (hG : G < 18446744073709551616) (hQ : Q < 18446744073709551616) (hS : S < 65536) (hH : H.length = 32) (hN : N < 18446744073709551616) (hc : c < 4294967296) (hh : h.length = 32)
    (e : (ptBytes p.toNat m).set i (x ^^^ t) = ptImg G Q S H N c h rest) :
    (ptWhy p g G Q S H N c h rest = 0 → 94 ≤ i ∧ i < 94 + m.state.length ∧ sha (rest.take N) = sha m.state) := by
  intro hw
  obtain ⟨r1, r2, r3, r4, r5, r6⟩ := hr
  have hMT : MT = 1099511627776 := rfl
  have hcw : c = crcMore 0 (ptHead G Q S H N) := by
    refine Classical.byContradiction fun hn => ?_
    rw [ptWhy, if_pos hn] at hw; cases hw
  have hgood : 1 ≤ G ∧ G ≤ MT ∧ Q ≤ MT ∧ (S : Int) ≤ g ∧ (N : Int) ≤ 128 * p - 94 ∧ noughts (rest.drop N) = true := by
    refine Classical.byContradiction fun hn => ?_
    rw [ptWhy, if_neg (by simp [hcw]), if_pos hn] at hw; cases hw
  have hsha : sha (rest.take N) = h := by
    refine Classical.byContradiction fun hn => ?_
    rw [ptWhy, if_neg (by simp [hcw]), if_neg (by simpa using hgood), if_pos hn] at hw; cases hw
  have hX := ptHead_length m.gen m.seq m.seg.toNat m.head m.state.length r6
  have hX' := ptHead_length G Q S H N hH
  have hlt := crcMore_lt 0 (ptHead m.gen m.seq m.seg.toNat m.head m.state.length)
  have hli : i < (ptBytes p.toNat m).length := (List.getElem?_eq_some_iff.1 hx).1
  have hlb : (ptBytes p.toNat m).length = 94 + (m.state.length + (128 * p.toNat - 94 - m.state.length)) := by
    unfold ptBytes; rw [ptImg_length _ _ _ _ _ _ _ _ r6 (sha_length _)]; simp
  obtain ⟨C, hC⟩ : ∃ C, C = crcMore 0 (ptHead m.gen m.seq m.seg.toNat m.head m.state.length) := ⟨_, rfl⟩
  rw [← hC] at hlt
  have hB : ptBytes p.toNat m = ptHead m.gen m.seq m.seg.toNat m.head m.state.length ++ (be (C / 65536) 2 ++ (be C 2 ++ (sha m.state ++ (m.state ++ List.replicate (128 * p.toNat - 94 - m.state.length) 0)))) := by rw [hC]; rfl
  rw [hB] at e hx
  unfold ptImg at e
  generalize hY : ptHead m.gen m.seq m.seg.toNat m.head m.state.length = Y at *
  have hsl := sha_length m.state
  by_cases i58 : i < 58
  · exfalso
    rw [List.set_append_left _ _ (by omega)] at e
    obtain ⟨e1, e2⟩ := List.append_inj e (by rw [List.length_set, hX, hX'])
    obtain ⟨e3, e4⟩ := List.append_inj e2 (by rw [be_length, be_length])
    obtain ⟨e5, e6⟩ := List.append_inj e4 (by rw [be_length, be_length])
    have g1 := congrArg num e3
    have g2 := congrArg num e5
    rw [num_be, num_be] at g1 g2
    have hCc : C = c := by omega
    rw [List.getElem?_append_left (by omega), List.getElem?_eq_getElem (by omega)] at hx
    have hx' := Option.some.inj hx
    have e7 := turned_succ Y i [t] 0 (by omega) (by simp)
    rw [turned_zero] at e7
    simp only [Nat.add_zero, List.getElem_cons_zero, hx'] at e7
    have h8 : crcMore 0 (turned Y i [t] 1) = crcMore 0 Y := by rw [e7, e1, ← hC, hCc, hcw]
    rw [crc_turned Y i [t] 1 (by omega) (by simp) (by omega)] at h8
    exact ht (h8 t (by simp))
  · rw [List.set_append_right _ _ (by omega), hX] at e
    rw [List.getElem?_append_right (by omega), hX] at hx
    obtain ⟨e1, e2⟩ := List.append_inj e (by rw [hX, hX'])
    have hcC : c = C := by rw [hcw, hC, e1]
    subst hcC
    have eN : ptHead G Q S H N = ptHead m.gen m.seq m.seg.toNat m.head m.state.length := by rw [← e1, hY]
    obtain ⟨_, _, _, _, rfl⟩ := ptHead_inj hH r6 hG hQ hS hN (by omega) (by omega) (by omega) (by omega) eN
    by_cases i62 : i < 62
    · exfalso
      have e2 : ((be (c / 65536) 2 ++ be c 2) ++ (sha m.state ++ (m.state ++ List.replicate (128 * p.toNat - 94 - m.state.length) 0))).set (i - 58) (x ^^^ t) = (be (c / 65536) 2 ++ be c 2) ++ (h ++ rest) := by
        rw [List.append_assoc, List.append_assoc]; exact e2
      rw [← List.append_assoc] at hx
      have hl4 : (be (c / 65536) 2 ++ be c 2).length = 4 := by simp [be_length]
      rw [List.set_append_left _ _ (by omega)] at e2
      rw [List.getElem?_append_left (by omega)] at hx
      obtain ⟨e3, _⟩ := List.append_inj e2 (by simp [be_length])
      have h9 := congrArg (·[i - 58]?) e3
      (try simp only at h9)
      rw [List.getElem?_set_self (by omega), hx] at h9
      exact pt_xor_ne x t ht (Option.some.inj h9).symm
    · have e2 : ((be (c / 65536) 2 ++ be c 2) ++ (sha m.state ++ (m.state ++ List.replicate (128 * p.toNat - 94 - m.state.length) 0))).set (i - 58) (x ^^^ t) = (be (c / 65536) 2 ++ be c 2) ++ (h ++ rest) := by
        rw [List.append_assoc, List.append_assoc]; exact e2
      rw [← List.append_assoc] at hx
      have hl4 : (be (c / 65536) 2 ++ be c 2).length = 4 := by simp [be_length]
      rw [List.set_append_right _ _ (by omega), hl4] at e2
      rw [List.getElem?_append_right (by omega), hl4] at hx
      obtain ⟨_, e3⟩ := List.append_inj e2 rfl
      by_cases i94 : i < 94
      · exfalso
        rw [List.set_append_left _ _ (by omega)] at e3
        rw [List.getElem?_append_left (by omega)] at hx
        obtain ⟨e4, e5⟩ := List.append_inj e3 (by rw [List.length_set, hsl, hh])
        rw [← e5, List.take_left] at hsha
        rw [← hsha] at e4
        have h9 := congrArg (·[i - 58 - 4]?) e4
        (try simp only at h9)
        rw [List.getElem?_set_self (by omega), hx] at h9
        exact pt_xor_ne x t ht (Option.some.inj h9).symm
      · rw [List.set_append_right _ _ (by omega), hsl] at e3
        rw [List.getElem?_append_right (by omega), hsl] at hx
        obtain ⟨e4, e5⟩ := List.append_inj e3 (by rw [hsl, hh])
        by_cases iT : i < 94 + m.state.length
        · exact ⟨by omega, iT, by rw [hsha, e4]⟩
        · exfalso
          rw [List.set_append_right _ _ (by omega)] at e5
          rw [List.getElem?_append_right (by omega), List.getElem?_replicate] at hx
          have hx0 : x = 0 := by
            split at hx
            · exact (Option.some.inj hx).symm
            · cases hx
          have h10 := hgood.2.2.2.2.2
          rw [← e5, List.drop_left, hx0, noughts_set _ _ _ (by omega) ht] at h10
          cases h10
end Go.Proofs.YtdglhonogopciaaDoor
