/- Trees of hashes, in plain Lean: roots, paths, proofs of growth, and what they come to. -/
import Derived.Test.YtdglhonogopciaaShaLaw
namespace Go.Proofs.Ytdglhonogopciaa
open Go.RowKit

def partF (n k : Nat) : Nat := if 0 < k ∧ 2 * k < n then partF n (2 * k) else k
termination_by n - k
decreasing_by omega
/-- the greatest power of two below n -/
def mpart (n : Nat) : Nat := partF n 1
theorem partF_go {n k : Nat} (h0 : 0 < k) (h : 2 * k < n) : partF n k = partF n (2 * k) := by rw [partF, if_pos ⟨h0, h⟩]
theorem partF_stop {n k : Nat} (h : ¬ 2 * k < n) : partF n k = k := by rw [partF, if_neg (by omega)]
theorem partF_spec (n k : Nat) (h0 : 0 < k) (h : k < n) : partF n k < n ∧ n ≤ 2 * partF n k ∧ k ≤ partF n k := by
  by_cases h2 : 2 * k < n
  · rw [partF_go h0 h2]
    have := partF_spec n (2 * k) (by omega) h2
    omega
  · rw [partF_stop h2]; omega
termination_by n - k
theorem partF_pow (n e : Nat) : ∃ a, partF n (2 ^ e) = 2 ^ a := by
  by_cases h2 : 2 * 2 ^ e < n
  · have h0 : 0 < 2 ^ e := Nat.two_pow_pos e
    rw [partF_go h0 h2, Nat.mul_comm, ← Nat.pow_succ]
    exact partF_pow n (e + 1)
  · rw [partF_stop h2]; exact ⟨e, rfl⟩
termination_by n - 2 ^ e
decreasing_by rw [Nat.pow_succ]; omega
theorem mpart_spec {n : Nat} (h : 2 ≤ n) : mpart n < n ∧ n ≤ 2 * mpart n ∧ 1 ≤ mpart n := partF_spec n 1 (by omega) (by omega)
theorem mpart_pow (n : Nat) : ∃ a, mpart n = 2 ^ a := partF_pow n 0
/-- a power of two that lies so is the mpart -/
theorem mpart_unique {n a : Nat} (h1 : 2 ^ a < n) (h2 : n ≤ 2 * 2 ^ a) : mpart n = 2 ^ a := by
  have h0 : 0 < 2 ^ a := Nat.two_pow_pos a
  obtain ⟨b, hb⟩ := mpart_pow n
  obtain ⟨p1, p2, _⟩ := mpart_spec (n := n) (by omega)
  rw [hb] at p1 p2 ⊢
  have q1 : 2 ^ a < 2 ^ (b + 1) := by rw [Nat.pow_succ]; omega
  have q2 : 2 ^ b < 2 ^ (a + 1) := by rw [Nat.pow_succ]; omega
  have r1 := (Nat.pow_lt_pow_iff_right (by omega)).1 q1
  have r2 := (Nat.pow_lt_pow_iff_right (by omega)).1 q2
  rw [show b = a by omega]
theorem mpart_mid {m n : Nat} (h1 : mpart n < m) (h2 : m ≤ n) (hn : 2 ≤ n) : mpart m = mpart n := by
  obtain ⟨a, ha⟩ := mpart_pow n
  have := mpart_spec hn
  rw [ha]
  exact mpart_unique (by omega) (by omega)
theorem mpart_log {n d : Nat} (hn : 2 ≤ n) (h : n ≤ 2 ^ (d + 1)) : mpart n ≤ 2 ^ d := by
  obtain ⟨a, ha⟩ := mpart_pow n
  have := mpart_spec hn
  have h3 : 2 ^ a < 2 ^ (d + 1) := by omega
  have h4 := (Nat.pow_lt_pow_iff_right (by omega)).1 h3
  rw [ha]
  exact Nat.pow_le_pow_right (by omega) (by omega)

abbrev pairH (x y : List UInt8) : List UInt8 := sha (1 :: (x ++ y))

/-- a tree's hash -/
def mroot (ls : List (List UInt8)) : List UInt8 :=
  if ls.length < 2 then (if ls.length = 0 then sha [] else sha (0 :: ls.headD []))
  else pairH (mroot (ls.take (mpart ls.length))) (mroot (ls.drop (mpart ls.length)))
termination_by ls.length
decreasing_by
  · have := mpart_spec (n := ls.length) (by omega); simp; omega
  · have := mpart_spec (n := ls.length) (by omega); simp; omega
theorem mroot_nil : mroot [] = sha [] := by rw [mroot]; rfl
theorem mroot_one (x : List UInt8) : mroot [x] = sha (0 :: x) := by rw [mroot]; rfl
theorem mroot_more {ls : List (List UInt8)} (h : 2 ≤ ls.length) : mroot ls = pairH (mroot (ls.take (mpart ls.length))) (mroot (ls.drop (mpart ls.length))) := by rw [mroot, if_neg (by omega)]
theorem mroot_length (ls : List (List UInt8)) : (mroot ls).length = 32 := by
  rw [mroot]; split
  · split <;> exact sha_length _
  · exact sha_length _

/-- the hashes beside a leaf -/
def mpath (ls : List (List UInt8)) (i : Nat) : List (List UInt8) :=
  if ls.length < 2 then []
  else if i < mpart ls.length then mpath (ls.take (mpart ls.length)) i ++ [mroot (ls.drop (mpart ls.length))]
  else mpath (ls.drop (mpart ls.length)) (i - mpart ls.length) ++ [mroot (ls.take (mpart ls.length))]
termination_by ls.length
decreasing_by
  · have := mpart_spec (n := ls.length) (by omega); simp; omega
  · have := mpart_spec (n := ls.length) (by omega); simp; omega
/-- the root that a leaf's hash comes to; false: the path has another length -/
def climb (leaf : List UInt8) (i n : Nat) (ps : List (List UInt8)) : List UInt8 × Bool :=
  if n < 2 then (leaf, ps.length == 0)
  else if ps.length = 0 then ([], false)
  else if i < mpart n then
    (pairH (climb leaf i (mpart n) ps.dropLast).1 (ps.getLastD []), (climb leaf i (mpart n) ps.dropLast).2)
  else (pairH (ps.getLastD []) (climb leaf (i - mpart n) (n - mpart n) ps.dropLast).1, (climb leaf (i - mpart n) (n - mpart n) ps.dropLast).2)
termination_by n
decreasing_by
  all_goals have := mpart_spec (n := n) (by omega); omega
/-- how long a path is -/
def dep (i n : Nat) : Nat :=
  if n < 2 then 0 else if i < mpart n then dep i (mpart n) + 1 else dep (i - mpart n) (n - mpart n) + 1
termination_by n
decreasing_by
  all_goals have := mpart_spec (n := n) (by omega); omega
theorem mpath_length (ls : List (List UInt8)) (i : Nat) : (mpath ls i).length = dep i ls.length := by
  rw [mpath, dep]
  by_cases h : ls.length < 2
  · rw [if_pos h, if_pos h]; rfl
  · have := mpart_spec (n := ls.length) (by omega)
    rw [if_neg h, if_neg h]
    split
    · rw [List.length_append, mpath_length, List.length_take, Nat.min_eq_left (by omega)]; rfl
    · rw [List.length_append, mpath_length, List.length_drop]; rfl
termination_by ls.length
decreasing_by
  · simp; omega
  · simp; omega
theorem dep_le (d : Nat) : ∀ (i n : Nat), n ≤ 2 ^ d → dep i n ≤ d := by
  induction d with
  | zero => intro i n h; rw [dep, if_pos (by simp at h; omega)]; omega
  | succ d ih =>
    intro i n h
    rw [dep]
    by_cases h2 : n < 2
    · rw [if_pos h2]; omega
    · have hp := mpart_spec (n := n) (by omega)
      have hl := mpart_log (n := n) (d := d) (by omega) h
      rw [if_neg h2]
      split
      · have := ih i (mpart n) hl; omega
      · have := ih (i - mpart n) (n - mpart n) (by omega); omega
/-- a path of another length is told -/
theorem climb_ok (leaf : List UInt8) (i n : Nat) (ps : List (List UInt8)) : (climb leaf i n ps).2 = decide (ps.length = dep i n) := by
  rw [climb, dep]
  by_cases h : n < 2
  · rw [if_pos h, if_pos h]; rfl
  · have := mpart_spec (n := n) (by omega)
    rw [if_neg h, if_neg h]
    by_cases h0 : ps.length = 0
    · rw [if_pos h0]
      split <;> exact (decide_eq_false (by omega)).symm
    · rw [if_neg h0]
      split
      · show (climb leaf i (mpart n) ps.dropLast).2 = _
        rw [climb_ok, List.length_dropLast, decide_eq_decide]; omega
      · show (climb leaf (i - mpart n) (n - mpart n) ps.dropLast).2 = _
        rw [climb_ok, List.length_dropLast, decide_eq_decide]; omega
termination_by n
theorem climb_short (leaf : List UInt8) (i n : Nat) (ps : List (List UInt8)) (hl : leaf.length ≤ 1000) : (climb leaf i n ps).1.length ≤ 1000 := by
  rw [climb]
  split
  · exact hl
  · split
    · simp
    · split
      · exact Nat.le_trans (Nat.le_of_eq (sha_length _)) (by omega)
      · exact Nat.le_trans (Nat.le_of_eq (sha_length _)) (by omega)
theorem getLastD_append_one {α : Type} (l : List α) (x d : α) : (l ++ [x]).getLastD d = x := by simp [List.getLastD_eq_getLast?]
/-- a leaf comes to the root by its path -/
theorem climb_path (ls : List (List UInt8)) (i : Nat) (h : i < ls.length) : climb (sha (0 :: ls.getD i [])) i ls.length (mpath ls i) = (mroot ls, true) := by
  rw [climb, mpath]
  by_cases h2 : ls.length < 2
  · rw [if_pos h2, if_pos h2]
    match ls, h, h2 with
    | [x], h, _ =>
      obtain rfl : i = 0 := by simpa using h
      rw [mroot_one]; rfl
  · have := mpart_spec (n := ls.length) (by omega)
    rw [if_neg h2, if_neg h2, mroot_more (ls := ls) (by omega)]
    have hk : (ls.take (mpart ls.length)).length = mpart ls.length := by rw [List.length_take]; omega
    have hd : (ls.drop (mpart ls.length)).length = ls.length - mpart ls.length := by rw [List.length_drop]
    by_cases hi : i < mpart ls.length
    · rw [if_pos hi, if_pos hi, if_neg (by simp), List.dropLast_concat, getLastD_append_one]
      have ih := climb_path (ls.take (mpart ls.length)) i (by omega)
      rw [hk] at ih
      have e : (ls.take (mpart ls.length)).getD i [] = ls.getD i [] := by rw [List.getD_eq_getElem?_getD, List.getElem?_take, if_pos hi, ← List.getD_eq_getElem?_getD]
      rw [e] at ih
      rw [ih]
    · rw [if_neg hi, if_neg hi, if_neg (by simp), List.dropLast_concat, getLastD_append_one]
      have ih := climb_path (ls.drop (mpart ls.length)) (i - mpart ls.length) (by omega)
      rw [hd] at ih
      have e : (ls.drop (mpart ls.length)).getD (i - mpart ls.length) [] = ls.getD i [] := by rw [List.getD_eq_getElem?_getD, List.getElem?_drop, ← List.getD_eq_getElem?_getD]; congr 1; omega
      rw [e] at ih
      rw [ih]
termination_by ls.length
decreasing_by
  · simp; omega
  · simp; omega

/-- a proof that the first m are the beginning -/
def mgrown (ls : List (List UInt8)) (m : Nat) (whole : Bool) : List (List UInt8) :=
  if m = ls.length then (if whole then [] else [mroot ls])
  else if ls.length < 2 then []
  else if m ≤ mpart ls.length then mgrown (ls.take (mpart ls.length)) m whole ++ [mroot (ls.drop (mpart ls.length))]
  else mgrown (ls.drop (mpart ls.length)) (m - mpart ls.length) false ++ [mroot (ls.take (mpart ls.length))]
termination_by ls.length
decreasing_by
  · have := mpart_spec (n := ls.length) (by omega); simp; omega
  · have := mpart_spec (n := ls.length) (by omega); simp; omega
/-- the hashes of the first m, and of all n, that a proof tells -/
def regrown (old : List UInt8) (m n : Nat) (ps : List (List UInt8)) (whole : Bool) : List UInt8 × List UInt8 × Bool :=
  if m = n then (if whole then (old, old, ps.length == 0) else if ps.length = 1 then (ps.headD [], ps.headD [], true) else ([], [], false))
  else if ps.length = 0 then ([], [], false)
  else if n < 2 then ([], [], false)
  else if m ≤ mpart n then
    ((regrown old m (mpart n) ps.dropLast whole).1, pairH (regrown old m (mpart n) ps.dropLast whole).2.1 (ps.getLastD []), (regrown old m (mpart n) ps.dropLast whole).2.2)
  else (pairH (ps.getLastD []) (regrown old (m - mpart n) (n - mpart n) ps.dropLast false).1, pairH (ps.getLastD []) (regrown old (m - mpart n) (n - mpart n) ps.dropLast false).2.1, (regrown old (m - mpart n) (n - mpart n) ps.dropLast false).2.2)
termination_by n
decreasing_by
  all_goals have := mpart_spec (n := n) (by omega); omega
def gdep (m n : Nat) (whole : Bool) : Nat :=
  if m = n then (if whole then 0 else 1) else if n < 2 then 0 else if m ≤ mpart n then gdep m (mpart n) whole + 1 else gdep (m - mpart n) (n - mpart n) false + 1
termination_by n
decreasing_by
  all_goals have := mpart_spec (n := n) (by omega); omega
theorem mgrown_length (ls : List (List UInt8)) (m : Nat) (whole : Bool) : (mgrown ls m whole).length = gdep m ls.length whole := by
  rw [mgrown, gdep]
  by_cases hm : m = ls.length
  · rw [if_pos hm, if_pos hm]; cases whole <;> rfl
  · rw [if_neg hm, if_neg hm]
    by_cases h : ls.length < 2
    · rw [if_pos h, if_pos h]; rfl
    · have := mpart_spec (n := ls.length) (by omega)
      rw [if_neg h, if_neg h]
      split
      · rw [List.length_append, mgrown_length, List.length_take, Nat.min_eq_left (by omega)]; rfl
      · rw [List.length_append, mgrown_length, List.length_drop]; rfl
termination_by ls.length
decreasing_by
  · simp; omega
  · simp; omega
theorem gdep_le (d : Nat) : ∀ (m n : Nat) (whole : Bool), n ≤ 2 ^ d → gdep m n whole ≤ d + 1 := by
  induction d with
  | zero => intro m n whole h; rw [gdep]; split
            · split <;> omega
            · rw [if_pos (by simp at h; omega)]; omega
  | succ d ih =>
    intro m n whole h
    rw [gdep]
    split
    · split <;> omega
    · by_cases h2 : n < 2
      · rw [if_pos h2]; omega
      · have hp := mpart_spec (n := n) (by omega)
        have hl := mpart_log (n := n) (d := d) (by omega) h
        rw [if_neg h2]
        split
        · have := ih m (mpart n) whole hl; omega
        · have := ih (m - mpart n) (n - mpart n) false (by omega); omega
theorem regrown_ok (old : List UInt8) (m n : Nat) (ps : List (List UInt8)) (whole : Bool) (h1 : 1 ≤ m) (hmn : m ≤ n) : (regrown old m n ps whole).2.2 = decide (ps.length = gdep m n whole) := by
  rw [regrown, gdep]
  by_cases hm : m = n
  · rw [if_pos hm, if_pos hm]
    cases whole
    · simp only [Bool.false_eq_true, if_false]
      by_cases h1 : ps.length = 1
      · rw [if_pos h1, decide_eq_true h1]
      · rw [if_neg h1, decide_eq_false h1]
    · rfl
  · rw [if_neg hm, if_neg hm]
    have := mpart_spec (n := n) (by omega)
    by_cases h0 : ps.length = 0
    · rw [if_pos h0, if_neg (show ¬ n < 2 by omega)]
      split <;> exact (decide_eq_false (by omega)).symm
    · rw [if_neg h0, if_neg (show ¬ n < 2 by omega), if_neg (show ¬ n < 2 by omega)]
      split
      · show (regrown old m (mpart n) ps.dropLast whole).2.2 = _
        rw [regrown_ok old m (mpart n) _ _ h1 (by omega), List.length_dropLast, decide_eq_decide]; omega
      · show (regrown old (m - mpart n) (n - mpart n) ps.dropLast false).2.2 = _
        rw [regrown_ok old (m - mpart n) (n - mpart n) _ _ (by omega) (by omega), List.length_dropLast, decide_eq_decide]; omega
termination_by n
theorem headD_short (ps : List (List UInt8)) (hps : ∀ p ∈ ps, p.length ≤ 1000) : (ps.headD []).length ≤ 1000 := by
  cases ps with
  | nil => simp
  | cons p ps => exact hps p (by simp)
theorem regrown_short (old : List UInt8) (m n : Nat) (ps : List (List UInt8)) (whole : Bool) (hl : old.length ≤ 1000) (hps : ∀ p ∈ ps, p.length ≤ 1000) :
    (regrown old m n ps whole).1.length ≤ 1000 ∧ (regrown old m n ps whole).2.1.length ≤ 1000 := by
  rw [regrown]
  split
  · split
    · exact ⟨hl, hl⟩
    · split
      · exact ⟨headD_short ps hps, headD_short ps hps⟩
      · exact ⟨by simp, by simp⟩
  · split
    · exact ⟨by simp, by simp⟩
    · by_cases h2 : n < 2
      · rw [if_pos h2]; exact ⟨by simp, by simp⟩
      · have := mpart_spec (n := n) (by omega)
        rw [if_neg h2]
        split
        · exact ⟨(regrown_short old m (mpart n) ps.dropLast whole hl (fun p hp => hps p ((List.dropLast_sublist ps).subset hp))).1, Nat.le_trans (Nat.le_of_eq (sha_length _)) (by omega)⟩
        · exact ⟨Nat.le_trans (Nat.le_of_eq (sha_length _)) (by omega), Nat.le_trans (Nat.le_of_eq (sha_length _)) (by omega)⟩
termination_by n
/-- a beginning is proved by its proof -/
theorem regrown_grown (ls : List (List UInt8)) (m : Nat) (whole : Bool) (old : List UInt8) (h1 : 1 ≤ m) (h : m ≤ ls.length) (ho : whole = true → old = mroot (ls.take m)) :
    regrown old m ls.length (mgrown ls m whole) whole = (mroot (ls.take m), mroot ls, true) := by
  rw [regrown, mgrown]
  by_cases hm : m = ls.length
  · rw [if_pos hm, if_pos hm]
    have ht : ls.take m = ls := by rw [hm, List.take_length]
    cases whole
    · rw [ht]; rfl
    · rw [ho rfl, ht]; rfl
  · have hp := mpart_spec (n := ls.length) (by omega)
    rw [if_neg hm, if_neg hm, if_neg (show ¬ ls.length < 2 by omega), mroot_more (ls := ls) (by omega)]
    have hk : (ls.take (mpart ls.length)).length = mpart ls.length := by rw [List.length_take]; omega
    have hd : (ls.drop (mpart ls.length)).length = ls.length - mpart ls.length := by rw [List.length_drop]
    by_cases hi : m ≤ mpart ls.length
    · rw [if_pos hi, if_pos hi, if_neg (by simp), if_neg (show ¬ ls.length < 2 by omega), List.dropLast_concat, getLastD_append_one]
      have e : (ls.take (mpart ls.length)).take m = ls.take m := by rw [List.take_take, Nat.min_eq_left hi]
      have ih := regrown_grown (ls.take (mpart ls.length)) m whole old h1 (by omega) (fun hw => by rw [e]; exact ho hw)
      rw [hk, e] at ih
      rw [ih]
    · rw [if_neg hi, if_neg hi, if_neg (by simp), if_neg (show ¬ ls.length < 2 by omega), List.dropLast_concat, getLastD_append_one]
      have ih := regrown_grown (ls.drop (mpart ls.length)) (m - mpart ls.length) false old (by omega) (by omega) (fun hw => by cases hw)
      rw [hd] at ih
      rw [ih]
      have hpm : mpart m = mpart ls.length := mpart_mid (by omega) h (by omega)
      have hml : (ls.take m).length = m := by rw [List.length_take]; omega
      have e1 : (ls.take m).take (mpart ls.length) = ls.take (mpart ls.length) := by rw [List.take_take, Nat.min_eq_left (by omega)]
      have e2 : (ls.take m).drop (mpart ls.length) = (ls.drop (mpart ls.length)).take (m - mpart ls.length) := by rw [List.drop_take]
      rw [mroot_more (ls := ls.take m) (by omega), hml, hpm, e1, e2]
termination_by ls.length
decreasing_by
  · simp; omega
  · simp; omega
end Go.Proofs.Ytdglhonogopciaa
