/- Operations in plain Lean: what a kind asks, what they are as bytes, what bytes are read as: no program in sight. -/
import Derived.Test.YtphjdlckoddgmaaNodeInv
import Derived.Test.YtphjdlckoddgmaaStr
namespace Go.Proofs.Ytphjdlckoddgmaa
open Go.RowKit

/-- what a kind asks -/
structure Ask where
  path : Bool := false
  to : Bool := false
  fd : Bool := false
  part : Bool := false
  til : Bool := false
  snap : Bool := false
  data : Bool := false
def asksOf : Int → Option Ask
  | 1 => some { path := true }
  | 2 => some { path := true }
  | 3 => some { path := true, snap := true }
  | 4 => some { fd := true, part := true }
  | 5 => some { fd := true, data := true }
  | 6 => some { fd := true, til := true }
  | 7 => some { path := true, to := true }
  | 8 => some { path := true }
  | 9 => some { path := true }
  | 10 => some { path := true, to := true }
  | 11 => some { path := true, snap := true }
  | 12 => some { path := true, snap := true }
  | 13 => some { path := true, til := true }
  | 14 => some {}
  | 15 => some { snap := true }
  | 16 => some { til := true }
  | 17 => some {}
  | _ => none
/-- an operation -/
structure Ov where
  kind : Int
  path : List UInt8
  to : List UInt8
  fd : Int
  at_ : Int
  n : Int
  til : Nat
  snap : Int
  dat : List UInt8
def zeroOv : Ov := ⟨0, [], [], 0, 0, 0, 0, 0, []⟩
/-- with what its kind asks alone -/
def Ov.asked (o : Ov) (a : Ask) : Ov :=
  ⟨o.kind, if a.path then o.path else [], if a.to then o.to else [], if a.fd then o.fd else 0, if a.part then o.at_ else 0, if a.part then o.n else 0, if a.til then o.til else 0, if a.snap then o.snap else 0, if a.data then o.dat else []⟩
def shortI (n : Int) : Bool := decide (0 ≤ n ∧ n ≤ 65535)
def rightN (a : Ask) (p t d : Nat) (fd at_ n snap : Int) : Nat :=
  if (a.path = true ∧ 200 < p) ∨ (a.to = true ∧ 200 < t) ∨ (a.data = true ∧ 600 < d) then 3
  else if (a.fd = true ∧ shortI fd = false) ∨ (a.part = true ∧ (shortI at_ = false ∨ shortI n = false)) ∨ (a.snap = true ∧ shortI snap = false) then 1
  else 0
def Ov.right (o : Ov) (a : Ask) : Nat := rightN a o.path.length o.to.length o.dat.length o.fd o.at_ o.n o.snap
/-- what stands behind the kind -/
def Ov.tail (o : Ov) (a : Ask) : List UInt8 :=
  (if a.path then lenBytes o.path else []) ++ ((if a.to then lenBytes o.to else []) ++ ((if a.fd then be o.fd.toNat 2 else []) ++
    ((if a.part then be o.at_.toNat 2 else []) ++ ((if a.part then be o.n.toNat 2 else []) ++ ((if a.til then be o.til 8 else []) ++ ((if a.snap then be o.snap.toNat 2 else []) ++ (if a.data then lenBytes o.dat else [])))))))
def Ov.bytes (o : Ov) (a : Ask) : List UInt8 := be o.kind.toNat 1 ++ o.tail a
def opEnc (o : Ov) : List UInt8 × Nat :=
  match asksOf o.kind with
  | none => ([], 30)
  | some a => if o.right a = 0 then (o.bytes a, 0) else ([], o.right a)
/-- a part that may be asked -/
def opt {α : Type} (c : Bool) (z : α) (f : List UInt8 × Nat → α × (List UInt8 × Nat)) (s : List UInt8 × Nat) : α × (List UInt8 × Nat) := if c then f s else (z, s)
def opRead (a : Ask) (k : Nat) (s0 : List UInt8 × Nat) : Ov × (List UInt8 × Nat) :=
  let p := opt a.path [] rdBytes s0
  let t := opt a.to [] rdBytes p.2
  let f := opt a.fd 0 rdShort t.2
  let x := opt a.part 0 rdShort f.2
  let y := opt a.part 0 rdShort x.2
  let u := opt a.til 0 rdLong y.2
  let s := opt a.snap 0 rdShort u.2
  let d := opt a.data [] rdBytes s.2
  (⟨k, p.1, t.1, f.1, x.1, y.1, u.1, s.1, d.1⟩, d.2)
def opDec (xs : List UInt8) : Ov × Nat :=
  match asksOf ((rdByte (xs, 0)).1 : Nat) with
  | none => (zeroOv, 30)
  | some a =>
    if rdEnd (opRead a (rdByte (xs, 0)).1 (rdByte (xs, 0)).2).2 = 0 ∧ (opRead a (rdByte (xs, 0)).1 (rdByte (xs, 0)).2).1.right a = 0
    then ((opRead a (rdByte (xs, 0)).1 (rdByte (xs, 0)).2).1, 0) else (zeroOv, 12)

theorem asksOf_range {k : Int} {a : Ask} (h : asksOf k = some a) : 1 ≤ k ∧ k ≤ 17 := by
  unfold asksOf at h
  split at h <;> first | (constructor <;> decide) | cases h
theorem asksOf_none {k : Int} (h : k < 1 ∨ 17 < k) : asksOf k = none := by
  cases hk : asksOf k with
  | none => rfl
  | some a => have := asksOf_range hk; omega
theorem kinds {k : Int} (h : ¬ (k < 1 ∨ 17 < k)) : k = 1 ∨ k = 2 ∨ k = 3 ∨ k = 4 ∨ k = 5 ∨ k = 6 ∨ k = 7 ∨ k = 8 ∨ k = 9 ∨ k = 10 ∨ k = 11 ∨ k = 12 ∨ k = 13 ∨ k = 14 ∨ k = 15 ∨ k = 16 ∨ k = 17 := by omega

theorem shortI_nat {n : Int} (h : shortI n = true) : ∃ m : Nat, n = (m : Int) ∧ m < 65536 := by
  unfold shortI at h
  have := of_decide_eq_true h
  exact ⟨n.toNat, by omega, by omega⟩
theorem shortI_of (m : Nat) (h : m < 65536) : shortI (m : Int) = true := by unfold shortI; exact decide_eq_true (by omega)

/-- the sets that are asked -/
theorem asks_sets {k : Int} {a : Ask} (h : asksOf k = some a) : a = { path := true } ∨ a = { path := true, snap := true } ∨ a = { fd := true, part := true } ∨ a = { fd := true, data := true } ∨ a = { fd := true, til := true } ∨
    a = { path := true, to := true } ∨ a = { path := true, til := true } ∨ a = {} ∨ a = { snap := true } ∨ a = { til := true } := by
  unfold asksOf at h
  split at h <;> first | (cases h; simp; done) | cases h

section
variable {α : Type} {z : α} {f : List UInt8 × Nat → α × (List UInt8 × Nat)}
theorem opt_ok (c : Bool) (g : List UInt8) (x : α) (L : List UInt8) (h : c = true → f (g ++ L, 0) = (x, (L, 0))) :
    opt c z f ((if c then g else []) ++ L, 0) = (if c then x else z, (L, 0)) := by
  cases c
  · rfl
  · exact h rfl
theorem opt_ok0 (c : Bool) (g : List UInt8) (x : α) (h : c = true → f (g ++ [], 0) = (x, ([], 0))) :
    opt c z f (if c then g else [], 0) = (if c then x else z, ([], 0)) := by
  have := opt_ok (z := z) c g x [] h
  rwa [List.append_nil] at this
end
theorem rdBytes_ok (xs L : List UInt8) (h : xs.length ≤ 65535) : rdBytes (lenBytes xs ++ L, 0) = (xs, (L, 0)) := by
  unfold lenBytes
  rw [Nat.min_eq_left h, List.take_of_length_le h]
  exact rdBytes_app xs L h

/-- what was written is read, with what its kind asks -/
theorem opRead_ok (o : Ov) (a : Ask) (k : Nat) (L : List UInt8) (hr : o.right a = 0) (ht : o.til < 18446744073709551616) :
    opRead a k (o.tail a ++ L, 0) = ({ o.asked a with kind := (k : Int) }, (L, 0)) := by
  unfold Ov.right rightN at hr
  split at hr
  · cases hr
  next h1 =>
    split at hr
    · cases hr
    next h2 =>
      have hb : ∀ (ys L : List UInt8) (c : Bool), (c = true → ys.length ≤ 600) → opt c [] rdBytes ((if c then lenBytes ys else []) ++ L, 0) = (if c then ys else [], (L, 0)) :=
        fun ys L c h => opt_ok c _ _ L fun hc => rdBytes_ok ys L (by have := h hc; omega)
      have hs : ∀ (n : Int) (L : List UInt8) (c : Bool), (c = true → shortI n = true) → opt c 0 rdShort ((if c then be n.toNat 2 else []) ++ L, 0) = (if c then n.toNat else 0, (L, 0)) :=
        fun n L c h => opt_ok c _ _ L fun hc => by
          obtain ⟨m, rfl, hm⟩ := shortI_nat (h hc)
          rw [rdShort_be, Int.toNat_natCast, Nat.mod_eq_of_lt hm]
      have hc : ∀ (n : Int) (c : Bool), (c = true → shortI n = true) → (((if c then n.toNat else 0 : Nat)) : Int) = if c then n else 0 := fun n c h => by
        cases c
        · rfl
        · obtain ⟨m, rfl, hm⟩ := shortI_nat (h rfl); rfl
      obtain ⟨kind, path, to, fd, at_, n, til, snap, dat⟩ := o
      simp only [not_or] at h1 h2 ht
      have p1 : a.path = true → path.length ≤ 600 := fun h => by have h9 := fun h' => h1.1 ⟨h, h'⟩; exact Nat.le_trans (Nat.not_lt.1 h9) (by omega)
      have p2 : a.to = true → to.length ≤ 600 := fun h => by have h9 := fun h' => h1.2.1 ⟨h, h'⟩; exact Nat.le_trans (Nat.not_lt.1 h9) (by omega)
      have p3 : a.data = true → dat.length ≤ 600 := fun h => by have h9 := fun h' => h1.2.2 ⟨h, h'⟩; exact Nat.not_lt.1 h9
      have p4 : a.fd = true → shortI fd = true := fun h => by have h9 := fun h' => h2.1 ⟨h, h'⟩; simpa using h9
      have p5 : a.part = true → shortI at_ = true := fun h => by have h9 := fun h' => h2.2.1 ⟨h, .inl h'⟩; simpa using h9
      have p6 : a.part = true → shortI n = true := fun h => by have h9 := fun h' => h2.2.1 ⟨h, .inr h'⟩; simpa using h9
      have p7 : a.snap = true → shortI snap = true := fun h => by have h9 := fun h' => h2.2.2 ⟨h, h'⟩; simpa using h9
      unfold opRead Ov.tail Ov.asked
      simp only [List.append_assoc]
      rw [hb path _ a.path p1]; simp only
      rw [hb to _ a.to p2]; simp only
      rw [hs fd _ a.fd p4]; simp only
      rw [hs at_ _ a.part p5]; simp only
      rw [hs n _ a.part p6]; simp only
      rw [opt_ok (f := rdLong) (z := 0) a.til (be til 8) til _ (fun _ => rdLong_be til _ ht)]; simp only
      rw [hs snap _ a.snap p7]; simp only
      rw [hb dat _ a.data p3]
      simp only [hc fd _ p4, hc at_ _ p5, hc n _ p6, hc snap _ p7]

theorem Ov.right_asked (o : Ov) (a : Ask) : (o.asked a).right a = o.right a := by
  obtain ⟨p, t, f, q, u, s, d⟩ := a
  unfold Ov.right rightN Ov.asked
  cases p <;> cases t <;> cases f <;> cases q <;> cases s <;> cases d <;> simp
theorem Ov.tail_asked (o : Ov) (a : Ask) : (o.asked a).tail a = o.tail a := by
  obtain ⟨p, t, f, q, u, s, d⟩ := a
  unfold Ov.tail Ov.asked
  cases p <;> cases t <;> cases f <;> cases q <;> cases u <;> cases s <;> cases d <;> rfl
theorem Ov.bytes_asked (o : Ov) (a : Ask) : (o.asked a).bytes a = o.bytes a := by
  unfold Ov.bytes; rw [Ov.tail_asked]; rfl
theorem Ov.asked_asked (o : Ov) (a : Ask) : (o.asked a).asked a = o.asked a := by
  obtain ⟨p, t, f, q, u, s, d⟩ := a
  unfold Ov.asked
  cases p <;> cases t <;> cases f <;> cases q <;> cases u <;> cases s <;> cases d <;> rfl
theorem rdEnd_nil : rdEnd ([], 0) = 0 := rfl
theorem rdEnd_zero {s : List UInt8 × Nat} (h : rdEnd s = 0) : s = ([], 0) := by
  obtain ⟨ys, why⟩ := s
  unfold rdEnd at h
  simp only at h
  split at h
  · omega
  · rename_i hn
    subst h
    cases ys
    · rfl
    · exact absurd ⟨rfl, by simp⟩ hn
theorem kind_byte {k : Int} {a : Ask} (h : asksOf k = some a) : ((k.toNat % 256 : Nat) : Int) = k := by
  have := asksOf_range h; omega
/-- what was written is read -/
theorem opDec_ok (o : Ov) (a : Ask) (ha : asksOf o.kind = some a) (hr : o.right a = 0) (ht : o.til < 18446744073709551616) : opDec (o.bytes a) = (o.asked a, 0) := by
  unfold opDec Ov.bytes
  have h := opRead_ok o a (o.kind.toNat % 256) [] hr ht
  rw [List.append_nil] at h
  rw [rdByte_be, kind_byte ha, ha]
  simp only
  rw [h, kind_byte ha]
  have e : ({ o.asked a with kind := o.kind } : Ov) = o.asked a := rfl
  rw [e, rdEnd_nil, Ov.right_asked, hr, if_pos ⟨rfl, rfl⟩]
/-- with more behind it is not -/
theorem opDec_more (o : Ov) (a : Ask) (L : List UInt8) (ha : asksOf o.kind = some a) (hr : o.right a = 0) (ht : o.til < 18446744073709551616) (hL : L ≠ []) : opDec (o.bytes a ++ L) = (zeroOv, 12) := by
  unfold opDec Ov.bytes
  have h := opRead_ok o a (o.kind.toNat % 256) L hr ht
  rw [List.append_assoc, rdByte_be, kind_byte ha, ha]
  simp only
  rw [h]
  rw [if_neg fun hc => hL (by have := rdEnd_zero hc.1; simpa using this)]

section
variable {α : Type} {z : α} {f : List UInt8 × Nat → α × (List UInt8 × Nat)}
theorem opt_inv (c : Bool) (g : α → List UInt8) (G : α → Prop) (s : List UInt8 × Nat) (hf : ∀ s, (f s).2.2 = 0 → ∃ zs, s = (g (f s).1 ++ zs, 0) ∧ (f s).2 = (zs, 0) ∧ G (f s).1) (h : (opt c z f s).2.2 = 0) :
    ∃ zs, s = ((if c then g (opt c z f s).1 else []) ++ zs, 0) ∧ (opt c z f s).2 = (zs, 0) ∧ (c = true → G (opt c z f s).1) ∧ (c = false → (opt c z f s).1 = z) := by
  cases c
  · refine ⟨s.1, ?_, ?_, by simp, fun _ => rfl⟩
    · obtain ⟨x, y⟩ := s
      obtain rfl : y = 0 := h
      rfl
    · obtain ⟨x, y⟩ := s
      obtain rfl : y = 0 := h
      rfl
  · obtain ⟨zs, h1, h2, h3⟩ := hf s h
    exact ⟨zs, h1, h2, fun _ => h3, by simp⟩
end
theorem rdBytes_inv (s : List UInt8 × Nat) (h : (rdBytes s).2.2 = 0) : ∃ zs, s = (lenBytes (rdBytes s).1 ++ zs, 0) ∧ (rdBytes s).2 = (zs, 0) ∧ (rdBytes s).1.length ≤ 65535 := by
  have h0 : (rdShort s).2.2 = 0 := by
    by_cases hc : (rdShort s).2.2 = 0
    · exact hc
    · exact absurd h (rdRaw_keeps _ _ hc)
  obtain ⟨ys, zs, rfl, h2, h3⟩ := rdShort_inv s h0
  have hlt : num ys < 65536 := by have := num_lt ys; rw [h2] at this; exact this
  have hbe : be (num ys) 2 = ys := by rw [← h2]; exact be_num ys
  unfold rdBytes at h ⊢
  rw [h3] at h ⊢
  simp only at h ⊢
  by_cases hn : num ys = 0
  · rw [hn] at h hbe ⊢
    have e : rdRaw (zs, 0) ((0 : Nat) : Int) = ([], (zs, 0)) := by
      have := rdRaw_app [] zs 0 rfl
      exact this
    rw [e]
    refine ⟨zs, ?_, rfl, by simp⟩
    rw [← hbe]; rfl
  · obtain ⟨us, vs, h4, h5, h6⟩ := rdRaw_inv' (zs, 0) (num ys) (by omega) h
    obtain rfl : zs = us ++ vs := congrArg Prod.fst h4
    rw [h6]
    have hl : us.length ≤ 65535 := by omega
    refine ⟨vs, ?_, rfl, hl⟩
    unfold lenBytes
    simp only
    rw [Nat.min_eq_left hl, List.take_of_length_le hl, h5, hbe, List.append_assoc]
theorem rdShort_inv2 (s : List UInt8 × Nat) (h : (rdShort s).2.2 = 0) : ∃ zs, s = (be (rdShort s).1 2 ++ zs, 0) ∧ (rdShort s).2 = (zs, 0) ∧ (rdShort s).1 < 65536 := by
  have hl := rdShort_lt s
  obtain ⟨ys, zs, h1, h2, h3⟩ := rdShort_inv s h
  rw [h3] at hl ⊢
  refine ⟨zs, ?_, rfl, hl⟩
  rw [h1, ← h2]
  simp only
  rw [be_num]
theorem rdLong_inv2 (s : List UInt8 × Nat) (h : (rdLong s).2.2 = 0) : ∃ zs, s = (be (rdLong s).1 8 ++ zs, 0) ∧ (rdLong s).2 = (zs, 0) ∧ (rdLong s).1 < 18446744073709551616 := by
  have hl := rdLong_lt s
  obtain ⟨ys, zs, h1, h2, h3⟩ := rdLong_inv s h
  rw [h3] at hl ⊢
  refine ⟨zs, ?_, rfl, hl⟩
  rw [h1, ← h2]
  simp only
  rw [be_num]
theorem rdByte_inv2 (s : List UInt8 × Nat) (h : (rdByte s).2.2 = 0) : ∃ zs, s = (be (rdByte s).1 1 ++ zs, 0) ∧ (rdByte s).2 = (zs, 0) ∧ (rdByte s).1 < 256 := by
  have hl := rdByte_lt s
  obtain ⟨ys, zs, h1, h2, h3⟩ := rdByte_inv s h
  rw [h3] at hl ⊢
  refine ⟨zs, ?_, rfl, hl⟩
  rw [h1, ← h2]
  simp only
  rw [be_num]
theorem if_of {α : Type} {c : Bool} {x z : α} (h : c = false → x = z) : (if c = true then x else z) = x := by
  cases c
  · exact (h rfl).symm
  · rfl
theorem fst_eq {α β : Type} {x y : α} {b c : β} (h : (x, b) = (y, c)) : x = y := congrArg Prod.fst h

theorem opRead_inv (a : Ask) (k : Nat) (s0 : List UInt8 × Nat) (h : (opRead a k s0).2.2 = 0) :
    ∃ zs, s0 = ((opRead a k s0).1.tail a ++ zs, 0) ∧ (opRead a k s0).2 = (zs, 0) ∧ (opRead a k s0).1.asked a = (opRead a k s0).1 ∧ (opRead a k s0).1.til < 18446744073709551616 := by
  unfold opRead at *
  simp only at *
  generalize hp : opt a.path [] rdBytes s0 = p at *
  generalize ht : opt a.to [] rdBytes p.2 = t at *
  generalize hf : opt a.fd 0 rdShort t.2 = f at *
  generalize hx : opt a.part 0 rdShort f.2 = x at *
  generalize hy : opt a.part 0 rdShort x.2 = y at *
  generalize hu : opt a.til 0 rdLong y.2 = u at *
  generalize hs : opt a.snap 0 rdShort u.2 = s at *
  generalize hd : opt a.data [] rdBytes s.2 = d at *
  obtain ⟨z8, e8, f8, _, n8⟩ := opt_inv a.data lenBytes (fun y => y.length ≤ 65535) s.2 rdBytes_inv (by rw [hd]; exact h)
  rw [hd] at e8 f8 n8
  obtain ⟨z7, e7, f7, _, n7⟩ := opt_inv a.snap (be · 2) (fun y => y < 65536) u.2 rdShort_inv2 (by rw [hs, e8])
  rw [hs] at e7 f7 n7
  obtain ⟨z6, e6, f6, g6, n6⟩ := opt_inv a.til (be · 8) (fun y => y < 18446744073709551616) y.2 rdLong_inv2 (by rw [hu, e7])
  rw [hu] at e6 f6 n6 g6
  obtain ⟨z5, e5, f5, _, n5⟩ := opt_inv a.part (be · 2) (fun y => y < 65536) x.2 rdShort_inv2 (by rw [hy, e6])
  rw [hy] at e5 f5 n5
  obtain ⟨z4, e4, f4, _, n4⟩ := opt_inv a.part (be · 2) (fun y => y < 65536) f.2 rdShort_inv2 (by rw [hx, e5])
  rw [hx] at e4 f4 n4
  obtain ⟨z3, e3, f3, _, n3⟩ := opt_inv a.fd (be · 2) (fun y => y < 65536) t.2 rdShort_inv2 (by rw [hf, e4])
  rw [hf] at e3 f3 n3
  obtain ⟨z2, e2, f2, _, n2⟩ := opt_inv a.to lenBytes (fun y => y.length ≤ 65535) p.2 rdBytes_inv (by rw [ht, e3])
  rw [ht] at e2 f2 n2
  obtain ⟨z1, e1, f1, _, n1⟩ := opt_inv a.path lenBytes (fun y => y.length ≤ 65535) s0 rdBytes_inv (by rw [hp, e2])
  rw [hp] at e1 f1 n1
  clear hp ht hf hx hy hu hs hd
  rw [e2] at f1; rw [e3] at f2; rw [e4] at f3; rw [e5] at f4; rw [e6] at f5; rw [e7] at f6; rw [e8] at f7
  refine ⟨z8, ?_, f8, ?_, ?_⟩
  · unfold Ov.tail
    simp only [Int.toNat_natCast]
    rw [e1, ← fst_eq f1, ← fst_eq f2, ← fst_eq f3, ← fst_eq f4, ← fst_eq f5, ← fst_eq f6, ← fst_eq f7]
    simp only [List.append_assoc]
  · unfold Ov.asked
    simp only
    have q1 : (if a.path = true then p.1 else []) = p.1 := if_of n1
    have q2 : (if a.to = true then t.1 else []) = t.1 := if_of n2
    have q3 : (if a.fd = true then (f.1 : Int) else 0) = f.1 := if_of fun h => by rw [n3 h]; rfl
    have q4 : (if a.part = true then (x.1 : Int) else 0) = x.1 := if_of fun h => by rw [n4 h]; rfl
    have q5 : (if a.part = true then (y.1 : Int) else 0) = y.1 := if_of fun h => by rw [n5 h]; rfl
    have q6 : (if a.til = true then u.1 else 0) = u.1 := if_of n6
    have q7 : (if a.snap = true then (s.1 : Int) else 0) = s.1 := if_of fun h => by rw [n7 h]; rfl
    have q8 : (if a.data = true then d.1 else []) = d.1 := if_of n8
    rw [q1, q2, q3, q4, q5, q6, q7, q8]
  · cases hc : a.til with
    | true => exact g6 hc
    | false => rw [n6 hc]; decide

/-- what is read is just what is written -/
theorem opDec_inv (xs : List UInt8) (h : (opDec xs).2 = 0) : ∃ a, asksOf (opDec xs).1.kind = some a ∧ (opDec xs).1.right a = 0 ∧ xs = (opDec xs).1.bytes a ∧ (opDec xs).1.asked a = (opDec xs).1 ∧ (opDec xs).1.til < 18446744073709551616 := by
  unfold opDec at *
  generalize hb : rdByte (xs, 0) = r at *
  cases hk : asksOf (r.1 : Nat) with
  | none => rw [hk] at h; simp at h
  | some a =>
    rw [hk] at h
    try simp only at h
    try simp only
    by_cases hc : rdEnd (opRead a r.1 r.2).2 = 0 ∧ (opRead a r.1 r.2).1.right a = 0
    · rw [if_pos hc] at h ⊢
      have he := rdEnd_zero hc.1
      obtain ⟨zs, h1, h2, h3, h4⟩ := opRead_inv a r.1 r.2 (by rw [he])
      rw [he] at h2
      obtain rfl : zs = [] := (fst_eq h2).symm
      obtain ⟨us, h5, h6, h7⟩ := rdByte_inv2 (xs, 0) (by rw [hb, h1])
      rw [hb] at h5 h6 h7
      refine ⟨a, ?_, hc.2, ?_, h3, h4⟩
      · have : (opRead a r.1 r.2).1.kind = (r.1 : Int) := rfl
        rw [this, hk]
      · unfold Ov.bytes
        have : (opRead a r.1 r.2).1.kind.toNat = r.1 := by show ((r.1 : Int)).toNat = r.1; simp
        rw [this, fst_eq h5]
        rw [h6] at h1
        rw [h6]
        have e := fst_eq h1
        rw [List.append_nil] at e
        exact congrArg (be r.1 1 ++ ·) e
    · rw [if_neg hc] at h; simp at h
theorem opDec_no (xs : List UInt8) (h : (opDec xs).2 ≠ 0) : (opDec xs).1 = zeroOv := by
  unfold opDec at *
  cases hk : asksOf ((rdByte (xs, 0)).1 : Nat) with
  | none => rfl
  | some a =>
    rw [hk] at h
    try simp only at h
    try simp only
    split
    · rename_i hc; rw [if_pos hc] at h; exact absurd rfl h
    · rfl
/-- a part alone is not read -/
theorem opDec_cut (o : Ov) (a : Ask) (m : Nat) (ha : asksOf o.kind = some a) (hr : o.right a = 0) (ht : o.til < 18446744073709551616) (hm : m < (o.bytes a).length) : (opDec ((o.bytes a).take m)).2 ≠ 0 := by
  intro h
  obtain ⟨b, h1, h2, h3, h4, h5⟩ := opDec_inv _ h
  generalize (opDec ((o.bytes a).take m)).1 = y at *
  have hd := opDec_ok o a ha hr ht
  have hs : o.bytes a = y.bytes b ++ (o.bytes a).drop m := by rw [← h3, List.take_append_drop]
  rw [hs, opDec_more y b _ h1 h2 h5 (by intro e; have := congrArg List.length e; simp at this; omega)] at hd
  exact absurd (congrArg Prod.snd hd) (by simp)
end Go.Proofs.Ytphjdlckoddgmaa
