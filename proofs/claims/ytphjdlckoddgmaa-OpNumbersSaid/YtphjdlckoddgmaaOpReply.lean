/- Replies in plain Lean: which may be written, what they are as bytes, what bytes are read as: no program in sight. -/
import Derived.Test.YtphjdlckoddgmaaOpLaw
namespace Go.Proofs.Ytphjdlckoddgmaa
open Go.RowKit

structure Rp where
  err : Int
  n : Int
  dat : List UInt8
  names : List (List UInt8)
  node : Nd
def Nd.isZero (n : Nd) : Prop := n.id = 0 ∧ n.kind = 0 ∧ n.links = 0 ∧ n.size = 0 ∧ n.til = 0 ∧ n.closed = false
instance (n : Nd) : Decidable n.isZero := by unfold Nd.isZero; infer_instance
theorem Nd.isZero_iff (n : Nd) : n.isZero ↔ n = zeroNd := by
  obtain ⟨a, b, c, d, e, f⟩ := n
  simp [Nd.isZero, zeroNd]
def Rp.Fine (r : Rp) : Prop := (0 ≤ r.err ∧ r.err ≤ 255 ∧ shortI r.n = true ∧ r.dat.length ≤ 65535 ∧ r.names.length ≤ 255) ∧ (∀ s ∈ r.names, s.length ≤ 16) ∧ (r.node.isZero ∨ r.node.Ok)
instance (r : Rp) : Decidable r.Fine := by unfold Rp.Fine; infer_instance
def Rp.tail (r : Rp) : List UInt8 := [fb (!decide r.node.isZero)] ++ (if r.node.isZero then [] else lenBytes r.node.bytes)
def namesBytes (l : List (List UInt8)) : List UInt8 := (l.map lenBytes).flatten
def Rp.bytes (r : Rp) : List UInt8 := be r.err.toNat 1 ++ (be r.n.toNat 2 ++ (lenBytes r.dat ++ (be r.names.length 1 ++ (namesBytes r.names ++ r.tail))))
def rdNames : Nat → List UInt8 × Nat → List (List UInt8) × (List UInt8 × Nat)
  | 0, s => ([], s)
  | n + 1, s => ((rdBytes s).1 :: (rdNames n (rdBytes s).2).1, (rdNames n (rdBytes s).2).2)
theorem rdNames_ok (l : List (List UInt8)) (L : List UInt8) (h : ∀ s ∈ l, s.length ≤ 65535) : rdNames l.length (namesBytes l ++ L, 0) = (l, (L, 0)) := by
  induction l with
  | nil => rfl
  | cons x l ih =>
    have e : namesBytes (x :: l) = lenBytes x ++ namesBytes l := rfl
    rw [List.length_cons, rdNames, e, List.append_assoc, rdBytes_ok _ _ (h x (by simp)), ih fun s hs => h s (List.mem_cons_of_mem _ hs)]
theorem rdNames_length (n : Nat) (s : List UInt8 × Nat) : (rdNames n s).1.length = n := by
  induction n generalizing s with
  | zero => rfl
  | succ n ih => rw [rdNames, List.length_cons, ih]
theorem rdNames_keeps (n : Nat) (s : List UInt8 × Nat) (h : s.2 ≠ 0) : (rdNames n s).2.2 ≠ 0 := by
  induction n generalizing s with
  | zero => exact h
  | succ n ih =>
    rw [rdNames]
    apply ih
    obtain ⟨x, y⟩ := s
    rw [rdBytes_errs _ _ h]
    exact h
theorem rdNames_inv (n : Nat) (s : List UInt8 × Nat) (h : (rdNames n s).2.2 = 0) : ∃ zs, s = (namesBytes (rdNames n s).1 ++ zs, 0) ∧ (rdNames n s).2 = (zs, 0) := by
  induction n generalizing s with
  | zero =>
    obtain ⟨x, y⟩ := s
    obtain rfl : y = 0 := h
    exact ⟨x, rfl, rfl⟩
  | succ n ih =>
    rw [rdNames] at h ⊢
    simp only at h ⊢
    obtain ⟨zs, h1, h2⟩ := ih _ h
    obtain ⟨us, h3, h4, _⟩ := rdBytes_inv s (by rw [h1])
    refine ⟨zs, ?_, h2⟩
    rw [h4] at h1
    have e : namesBytes ((rdBytes s).1 :: (rdNames n (rdBytes s).2).1) = lenBytes (rdBytes s).1 ++ namesBytes (rdNames n (rdBytes s).2).1 := rfl
    have e2 := fst_eq h1
    rw [h4]
    rw [h4] at e
    rw [e, List.append_assoc, ← e2]
    exact h3
/-- what is read, and what is left -/
def rpS1 (xs : List UInt8) := rdByte (xs, 0)
def rpS2 (xs : List UInt8) := rdShort (rpS1 xs).2
def rpS3 (xs : List UInt8) := rdBytes (rpS2 xs).2
def rpS4 (xs : List UInt8) := rdByte (rpS3 xs).2
def rpS5 (xs : List UInt8) := rdNames (rpS4 xs).1 (rpS4 xs).2
def rpS6 (xs : List UInt8) := rdFlag (rpS5 xs).2
def rpS7 (xs : List UInt8) := opt (rpS6 xs).1 [] rdBytes (rpS6 xs).2
def rpNode (xs : List UInt8) : Option Nd := if (rpS6 xs).1 then ndDec (rpS7 xs).1 else some zeroNd
def rpOf (xs : List UInt8) : Rp := ⟨(rpS1 xs).1, (rpS2 xs).1, (rpS3 xs).1, (rpS5 xs).1, (rpNode xs).getD zeroNd⟩
def zeroRp : Rp := ⟨0, 0, [], [], zeroNd⟩
def rpEnc (r : Rp) : List UInt8 × Nat := if r.Fine then (r.bytes, 0) else ([], 12)
def rpDec (xs : List UInt8) : Rp × Nat := if (rpNode xs).isSome ∧ rdEnd (rpS7 xs).2 = 0 ∧ (rpOf xs).Fine then (rpOf xs, 0) else (zeroRp, 12)

/-- what was written is read; with more behind it is not -/
theorem rp_reads (r : Rp) (L : List UInt8) (h : r.Fine) (ht : r.node.til < 18446744073709551616) : rpNode (r.bytes ++ L) = some r.node ∧ (rpS7 (r.bytes ++ L)).2 = (L, 0) ∧ rpOf (r.bytes ++ L) = r := by
  obtain ⟨⟨h1, h2, h3, h4, h5⟩, h6, h7⟩ := h
  obtain ⟨err, n, dat, names, node⟩ := r
  simp only at h1 h2 h3 h4 h5 h6 h7 ht
  obtain ⟨n, rfl, hn⟩ := shortI_nat h3
  obtain ⟨e, rfl⟩ : ∃ e : Nat, err = (e : Int) := ⟨err.toNat, by omega⟩
  have s1 : rpS1 (Rp.bytes ⟨e, n, dat, names, node⟩ ++ L) = (e, (be n 2 ++ (lenBytes dat ++ (be names.length 1 ++ (namesBytes names ++ (Rp.tail ⟨e, n, dat, names, node⟩ ++ L)))), 0)) := by
    unfold rpS1 Rp.bytes
    simp only [List.append_assoc, Int.toNat_natCast]
    rw [rdByte_be, Nat.mod_eq_of_lt (by omega)]
  have s2 : rpS2 (Rp.bytes ⟨e, n, dat, names, node⟩ ++ L) = (n, (lenBytes dat ++ (be names.length 1 ++ (namesBytes names ++ (Rp.tail ⟨e, n, dat, names, node⟩ ++ L))), 0)) := by
    unfold rpS2; rw [s1]; simp only; rw [rdShort_be, Nat.mod_eq_of_lt hn]
  have s3 : rpS3 (Rp.bytes ⟨e, n, dat, names, node⟩ ++ L) = (dat, (be names.length 1 ++ (namesBytes names ++ (Rp.tail ⟨e, n, dat, names, node⟩ ++ L)), 0)) := by
    unfold rpS3; rw [s2]; simp only; rw [rdBytes_ok _ _ h4]
  have s4 : rpS4 (Rp.bytes ⟨e, n, dat, names, node⟩ ++ L) = (names.length, (namesBytes names ++ (Rp.tail ⟨e, n, dat, names, node⟩ ++ L), 0)) := by
    unfold rpS4; rw [s3]; simp only; rw [rdByte_be, Nat.mod_eq_of_lt (by omega)]
  have s5 : rpS5 (Rp.bytes ⟨e, n, dat, names, node⟩ ++ L) = (names, (Rp.tail ⟨e, n, dat, names, node⟩ ++ L, 0)) := by
    unfold rpS5; rw [s4]; simp only; rw [rdNames_ok _ _ fun s hs => by have := h6 s hs; omega]
  have s6 : rpS6 (Rp.bytes ⟨e, n, dat, names, node⟩ ++ L) = (!decide node.isZero, ((if node.isZero then [] else lenBytes node.bytes) ++ L, 0)) := by
    unfold rpS6; rw [s5]; simp only; unfold Rp.tail
    rw [List.append_assoc, List.singleton_append, rdFlag_ok]
  have s7 : rpS7 (Rp.bytes ⟨e, n, dat, names, node⟩ ++ L) = (if node.isZero then [] else node.bytes, (L, 0)) := by
    unfold rpS7; rw [s6]; simp only
    by_cases hz : node.isZero
    · rw [decide_eq_true hz, if_pos hz, if_pos hz]; rfl
    · rw [decide_eq_false hz, if_neg hz, if_neg hz]
      exact rdBytes_ok _ _ (by rw [Nd.bytes_length]; omega)
  have s8 : rpNode (Rp.bytes ⟨e, n, dat, names, node⟩ ++ L) = some node := by
    unfold rpNode; rw [s6, s7]; simp only
    by_cases hz : node.isZero
    · rw [decide_eq_true hz]; simp; exact ((Nd.isZero_iff _).1 hz).symm
    · rw [decide_eq_false hz, if_neg hz]; simp
      exact ndDec_bytes _ (h7.resolve_left hz) ht
  refine ⟨s8, by rw [s7], ?_⟩
  unfold rpOf
  rw [s1, s2, s3, s5, s8]
  rfl
theorem rpDec_ok (r : Rp) (h : r.Fine) (ht : r.node.til < 18446744073709551616) : rpDec r.bytes = (r, 0) := by
  have h0 := rp_reads r [] h ht
  rw [List.append_nil] at h0
  obtain ⟨h1, h2, h3⟩ := h0
  unfold rpDec
  rw [h1, h2, h3, if_pos ⟨rfl, rfl, h⟩]
theorem rpDec_more (r : Rp) (L : List UInt8) (h : r.Fine) (ht : r.node.til < 18446744073709551616) (hL : L ≠ []) : rpDec (r.bytes ++ L) = (zeroRp, 12) := by
  obtain ⟨h1, h2, h3⟩ := rp_reads r L h ht
  unfold rpDec
  rw [h2, if_neg fun hc => hL (by have := rdEnd_zero hc.2.1; simpa using this)]
theorem rdFlag_inv2 (s : List UInt8 × Nat) (h : (rdFlag s).2.2 = 0) : ∃ zs, s = ([fb (rdFlag s).1] ++ zs, 0) ∧ (rdFlag s).2 = (zs, 0) := by
  obtain ⟨b, zs, h1, h2⟩ := rdFlag_inv s h
  rw [h2]
  exact ⟨zs, h1, rfl⟩
theorem rp_chain (xs : List UInt8) (s1 s2 : Nat × (List UInt8 × Nat)) (s3 : List UInt8 × (List UInt8 × Nat)) (s4 : Nat × (List UInt8 × Nat)) (s5 : List (List UInt8) × (List UInt8 × Nat)) (s6 : Bool × (List UInt8 × Nat)) (s7 : List UInt8 × (List UInt8 × Nat))
    (q1 : rdByte (xs, 0) = s1) (q2 : rdShort s1.2 = s2) (q3 : rdBytes s2.2 = s3) (q4 : rdByte s3.2 = s4) (q5 : rdNames s4.1 s4.2 = s5) (q6 : rdFlag s5.2 = s6) (q7 : opt s6.1 [] rdBytes s6.2 = s7) (e7 : s7.2 = ([], 0)) :
    xs = be s1.1 1 ++ (be s2.1 2 ++ (lenBytes s3.1 ++ (be s4.1 1 ++ (namesBytes s5.1 ++ ([fb s6.1] ++ (if s6.1 then lenBytes s7.1 else [])))))) ∧ s5.1.length = s4.1 := by
  obtain ⟨z7, a7, b7, _, n7⟩ := opt_inv (z := []) (f := rdBytes) s6.1 lenBytes (fun y => y.length ≤ 65535) s6.2 rdBytes_inv (by rw [q7, e7])
  rw [q7] at a7 b7
  rw [e7] at b7
  obtain rfl : z7 = [] := (fst_eq b7).symm
  obtain ⟨z6, a6, b6⟩ := rdFlag_inv2 s5.2 (by rw [q6, a7])
  rw [q6] at a6 b6
  obtain ⟨z5, a5, b5⟩ := rdNames_inv s4.1 s4.2 (by rw [q5, a6])
  rw [q5] at a5 b5
  obtain ⟨z4, a4, b4, _⟩ := rdByte_inv2 s3.2 (by rw [q4, a5])
  rw [q4] at a4 b4
  obtain ⟨z3, a3, b3, _⟩ := rdBytes_inv s2.2 (by rw [q3, a4])
  rw [q3] at a3 b3
  obtain ⟨z2, a2, b2, _⟩ := rdShort_inv2 s1.2 (by rw [q2, a3])
  rw [q2] at a2 b2
  obtain ⟨z1, a1, b1, _⟩ := rdByte_inv2 (xs, 0) (by rw [q1, a2])
  rw [q1] at a1 b1
  have hl : s5.1.length = s4.1 := by rw [← q5]; exact rdNames_length _ _
  clear q1 q2 q3 q4 q5 q6 q7 e7 n7
  rw [a2] at b1; rw [a3] at b2; rw [a4] at b3; rw [a5] at b4; rw [a6] at b5; rw [a7] at b6
  have t1 := fst_eq a1; have t2 := fst_eq b1; have t3 := fst_eq b2; have t4 := fst_eq b3; have t5 := fst_eq b4; have t6 := fst_eq b5; have t7 := fst_eq b6
  rw [List.append_nil] at t7
  exact ⟨by rw [t1, ← t2, ← t3, ← t4, ← t5, ← t6, ← t7], hl⟩
/-- what is read is just what is written -/
theorem rpDec_inv (xs : List UInt8) (h : (rpDec xs).2 = 0) : (rpDec xs).1.Fine ∧ xs = (rpDec xs).1.bytes ∧ (rpDec xs).1.node.til < 18446744073709551616 := by
  unfold rpDec at *
  by_cases hc : (rpNode xs).isSome ∧ rdEnd (rpS7 xs).2 = 0 ∧ (rpOf xs).Fine
  · rw [if_pos hc] at h ⊢
    obtain ⟨h1, h2, h3⟩ := hc
    obtain ⟨t, hlen⟩ := rp_chain xs _ _ _ _ _ _ _ rfl rfl rfl rfl rfl rfl rfl (rdEnd_zero h2)
    change xs = be (rpS1 xs).1 1 ++ (be (rpS2 xs).1 2 ++ (lenBytes (rpS3 xs).1 ++ (be (rpS4 xs).1 1 ++ (namesBytes (rpS5 xs).1 ++ ([fb (rpS6 xs).1] ++ (if (rpS6 xs).1 then lenBytes (rpS7 xs).1 else [])))))) at t
    change (rpS5 xs).1.length = (rpS4 xs).1 at hlen
    have hnt : rpNode xs = some (rpOf xs).node := by
      unfold rpOf
      cases hn : rpNode xs with
      | none => rw [hn] at h1; simp at h1
      | some n => rfl
    have htl : (rpOf xs).tail = [fb (rpS6 xs).1] ++ (if (rpS6 xs).1 then lenBytes (rpS7 xs).1 else []) ∧ (rpOf xs).node.til < 18446744073709551616 := by
      unfold Rp.tail
      unfold rpNode at hnt
      cases hf : (rpS6 xs).1 with
      | false =>
        rw [hf] at hnt
        simp at hnt
        rw [← hnt]
        exact ⟨rfl, by decide⟩
      | true =>
        rw [hf, if_pos rfl] at hnt
        obtain ⟨k1, k2, k3⟩ := ndDec_inv _ _ hnt
        have hz : ¬ (rpOf xs).node.isZero := fun hz => by
          rw [(Nd.isZero_iff _).1 hz] at k1
          exact absurd k1 (by decide)
        rw [decide_eq_false hz, if_neg hz, ← k2]
        exact ⟨rfl, k3⟩
    refine ⟨h3, ?_, htl.2⟩
    unfold Rp.bytes
    rw [htl.1]
    have q1 : (rpOf xs).err.toNat = (rpS1 xs).1 := by show ((((rpS1 xs).1 : Nat) : Int)).toNat = _; simp
    have q2 : (rpOf xs).n.toNat = (rpS2 xs).1 := by show ((((rpS2 xs).1 : Nat) : Int)).toNat = _; simp
    have q3 : (rpOf xs).dat = (rpS3 xs).1 := rfl
    have q4 : (rpOf xs).names = (rpS5 xs).1 := rfl
    rw [q1, q2, q3, q4, hlen]
    exact t
  · rw [if_neg hc] at h; simp at h
theorem rpDec_no (xs : List UInt8) (h : (rpDec xs).2 ≠ 0) : rpDec xs = (zeroRp, 12) := by
  unfold rpDec at *
  split
  · rename_i hc; rw [if_pos hc] at h; simp at h
  · rfl
theorem rpDec_cut (r : Rp) (m : Nat) (h : r.Fine) (ht : r.node.til < 18446744073709551616) (hm : m < r.bytes.length) : rpDec (r.bytes.take m) = (zeroRp, 12) := by
  refine rpDec_no _ fun hc => ?_
  obtain ⟨h1, h2, h3⟩ := rpDec_inv _ hc
  generalize (rpDec (r.bytes.take m)).1 = y at *
  have hd := rpDec_ok r h ht
  have hs : r.bytes = y.bytes ++ r.bytes.drop m := by rw [← h2, List.take_append_drop]
  rw [hs, rpDec_more y _ h1 h3 (by intro e; have := congrArg List.length e; simp at this; omega)] at hd
  exact absurd (congrArg Prod.snd hd) (by simp)
end Go.Proofs.Ytphjdlckoddgmaa
