/- Contracts of codec.Reader. -/
import Derived.Test.YtdglhonogopciaaDoorClone
namespace Go.Proofs.YtdglhonogopciaaDoor
open Go.RowKit

/-- a reader: block q holds what is left (a slice that reads xs, in row rb) and the refusal -/
def Rd (w : World) (B q : Nat) (rb : Option Nat) (xs : List UInt8) (why : Nat) : Prop :=
  B ≤ q ∧ ∃ a cap, w.heap[q]? = some (.cells #[.slice a xs.length cap, .int .i64 (why : Int)] 93 (0, 0)) ∧ Bs w a xs.length cap xs ∧ a.map (·.block) = rb ∧ rb ≠ some q ∧ ∀ k, rb = some k → B ≤ k

theorem Rd.lt {w : World} {B q why : Nat} {rb : Option Nat} {xs : List UInt8} (h : Rd w B q rb xs why) : q < w.heap.size := by
  obtain ⟨_, a, cap, h1, _⟩ := h
  exact (Array.getElem?_eq_some_iff.1 h1).1
/-- what it reads -/
def RS (q : Nat) (rb : Option Nat) (k : Nat) : Prop := k = q ∨ rb = some k
theorem Rd.chg {w w' : World} {B q why : Nat} {rb : Option Nat} {xs : List UInt8} {S : Nat → Prop} (h : Rd w B q rb xs why) (hc : Chg S w w') (hs : ∀ k, RS q rb k → ¬ S k) : Rd w' B q rb xs why := by
  have hlt := h.lt
  obtain ⟨h0, a, cap, h1, h2, h3, h4, h5⟩ := h
  exact ⟨h0, a, cap, (hc.block q hlt (hs q (.inl rfl))).trans h1, hc.bs h2 (fun ad had => hs _ (.inr (by rw [← h3, had]; rfl))), h3, h4, h5⟩
theorem Rd.below {w w' : World} {B q why : Nat} {rb : Option Nat} {xs : List UInt8} (h : Rd w B q rb xs why) (hb : Below w.heap.size w w') : Rd w' B q rb xs why :=
  h.chg (Chg.of_below hb (fun _ => False)) (fun _ _ => id)

/-- reading so many bytes, in plain Lean: what is read; what is left and the refusal -/
def rdRaw (s : List UInt8 × Nat) (n : Int) : List UInt8 × (List UInt8 × Nat) :=
  if s.2 ≠ 0 then ([], s) else if (s.1.length : Int) < n then ([], (s.1, 10)) else if n < 1 then ([], s) else (s.1.take n.toNat, (s.1.drop n.toNat, 0))

/-- what a call on a reader leaves -/
def RPost (w : World) (B q : Nat) (rb : Option Nat) (s : List UInt8 × Nat) (w' : World) : Prop :=
  Rd w' B q rb s.1 s.2 ∧ Chg (fun k => k = q) w w'
theorem RPost.trans {w w1 w2 : World} {B q : Nat} {rb : Option Nat} {s : List UInt8 × Nat} (hc : Chg (fun k => k = q) w w1) (h : RPost w1 B q rb s w2) : RPost w B q rb s w2 :=
  ⟨h.1, hc.trans h.2 (fun _ _ h => h)⟩

theorem two_cells {w : World} {b : Nat} {u v : Value} {t : TypeId} (h : w.heap[b]? = some (.cells #[u, v] t (0, 0))) :
    w.cell? ⟨b, 0, none⟩ = some u ∧ w.cell? ⟨b, 1, none⟩ = some v ∧ w.frozen? ⟨b, 0, none⟩ = false ∧ w.frozen? ⟨b, 1, none⟩ = false := by simp [World.cell?, World.frozen?, h]
theorem two_set0 {w : World} {b : Nat} {u v x : Value} {t : TypeId} (h : w.heap[b]? = some (.cells #[u, v] t (0, 0))) : (w.setCell ⟨b, 0, none⟩ x).heap[b]? = some (.cells #[x, v] t (0, 0)) := by
  simp [World.setCell, Array.getElem?_modify, h]
theorem two_set1 {w : World} {b : Nat} {u v x : Value} {t : TypeId} (h : w.heap[b]? = some (.cells #[u, v] t (0, 0))) : (w.setCell ⟨b, 1, none⟩ x).heap[b]? = some (.cells #[u, x] t (0, 0)) := by
  simp [World.setCell, Array.getElem?_modify, h]

theorem Rd.set_why {w : World} {B q why : Nat} {rb : Option Nat} {xs : List UInt8} (h : Rd w B q rb xs why) (y : Nat) : RPost w B q rb (xs, y) (w.setCell ⟨q, 1, none⟩ (.int .i64 (y : Int))) := by
  have hc : Chg (fun k => k = q) w (w.setCell ⟨q, 1, none⟩ (.int .i64 (y : Int))) := Chg.setCell (S := fun k => k = q) (p := ⟨q, 1, none⟩) (Chg.refl _ _) (fun _ => rfl) _
  obtain ⟨h0, a, cap, h1, h2, h3, h4, h5⟩ := h
  refine ⟨⟨h0, a, cap, two_set1 h1, hc.bs h2 (fun ad had e => h4 ?_), h3, h4, h5⟩, hc⟩
  rw [← h3, had, ← e]; rfl

theorem rraw_err (B q : Nat) (rb : Option Nat) (xs : List UInt8) (why : Nat) (n : Int) (w : World) (h : Rd w B q rb xs why) (hw : why ≠ 0) :
    Calls Tryd.prog 42 #[.pointer (some ⟨q, 0, none⟩), .int .i64 n] w fun e w' => e = .returned (.slice none 0 0) ∧ w = w' := by
  obtain ⟨h0, a, cap, h1, h2, h3, h4, h5⟩ := h
  obtain ⟨c0, c1, f0, f1⟩ := two_cells h1
  have e1 : ((why : Int) == 0) = false := by rw [beq_eq_false_iff_ne]; omega
  have e2 : ((why : Int) != 0) = true := by rw [bne_iff_ne]; omega
  clear hw h3 h4 h5
  go_enter Tryd.func42, Tryd.ntmps42
  go_wp2_with fail
  go_ret
  exact ⟨rfl, rfl⟩
theorem rraw_end (B q : Nat) (rb : Option Nat) (xs : List UInt8) (n : Int) (w : World) (h : Rd w B q rb xs 0) (hn : (xs.length : Int) < n) :
    Calls Tryd.prog 42 #[.pointer (some ⟨q, 0, none⟩), .int .i64 n] w fun e w' => e = .returned (.slice none 0 0) ∧ RPost w B q rb (xs, 10) w' := by
  have hP := h.set_why 10
  obtain ⟨h0, a, cap, h1, h2, h3, h4, h5⟩ := h
  obtain ⟨c0, c1, f0, f1⟩ := two_cells h1
  clear h3 h4 h5
  go_enter Tryd.func42, Tryd.ntmps42
  go_wp2_with fail
  go_ret
  exact ⟨rfl, hP⟩
theorem rraw_none (B q : Nat) (rb : Option Nat) (xs : List UInt8) (n : Int) (w : World) (h : Rd w B q rb xs 0) (hn : n < 1) :
    Calls Tryd.prog 42 #[.pointer (some ⟨q, 0, none⟩), .int .i64 n] w fun e w' => e = .returned (.slice none 0 0) ∧ w = w' := by
  obtain ⟨h0, a, cap, h1, h2, h3, h4, h5⟩ := h
  obtain ⟨c0, c1, f0, f1⟩ := two_cells h1
  have hd : decide ((xs.length : Int) < n) = false := by simp; omega
  clear h3 h4 h5
  go_enter Tryd.func42, Tryd.ntmps42
  go_wp2_with fail
  go_ret
  exact ⟨rfl, rfl⟩
theorem Rd.advance {w w1 : World} {B q why : Nat} {rb : Option Nat} {xs ys : List UInt8} (h : Rd w B q rb xs why) (hb : Below w.heap.size w w1) {a1 : Option Addr} {len cap1 : Nat} (hD : Bs w1 a1 len cap1 ys) (ha : a1.map (·.block) = rb) :
    RPost w B q rb (ys, why) (w1.setCell ⟨q, 0, none⟩ (.slice a1 len cap1)) := by
  have hlt := h.lt
  have hc : Chg (fun k => k = q) w1 (w1.setCell ⟨q, 0, none⟩ (.slice a1 len cap1)) := Chg.setCell (S := fun k => k = q) (p := ⟨q, 0, none⟩) (Chg.refl _ _) (fun _ => rfl) _
  obtain ⟨h0, a, cap, h1, h2, h3, h4, h5⟩ := h
  obtain rfl := hD.1
  refine ⟨⟨h0, a1, cap1, two_set0 ((hb.block q hlt).trans h1), hc.bs hD (fun ad had e => h4 ?_), ha, h4, h5⟩, (Chg.of_below hb _).trans hc (fun _ _ h => h)⟩
  rw [← ha, had, ← e]; rfl

theorem rraw_some (B q : Nat) (rb : Option Nat) (xs : List UInt8) (n : Nat) (w : World) (h : Rd w B q rb xs 0) (hn : 1 ≤ n) (hl : n ≤ xs.length) (hb : xs.length ≤ big) :
    Calls Tryd.prog 42 #[.pointer (some ⟨q, 0, none⟩), .int .i64 (n : Int)] w fun e w' => ∃ v, e = .returned v ∧ Own w' w.heap.size v (xs.take n) ∧ RPost w B q rb (xs.drop n, 0) w' := by
  have hlt := h.lt
  have hR := h
  obtain ⟨h0, a, cap, h1, h2, h3, h4, h5⟩ := h
  obtain ⟨c0, c1, f0, f1⟩ := two_cells h1
  have hd : decide ((xs.length : Int) < (n : Int)) = false := by simp; omega
  have hcap := h2.2.1
  have hT := h2.take hl
  have hD := h2.drop hl
  by_cases hcn : cap = n
  · rw [if_pos hcn] at hD
    subst hcn
    go_enter Tryd.func42, Tryd.ntmps42
    go_wp2_with fail
    refine (clone_any a cap cap _ _ hT (by omega)).mono ?_
    rintro e w1 ⟨v, rfl, ho, hbl⟩
    have c0' := (hbl.cell (p := ⟨q, 0, none⟩) hlt).trans c0
    have f0' := (hbl.frozen (p := ⟨q, 0, none⟩) hlt).trans f0
    have hP := hR.advance hbl (hD.below hbl) h3
    have hO : Own (w1.setCell ⟨q, 0, none⟩ (.slice a (xs.length - cap) (cap - cap))) w.heap.size v (xs.take cap) := by
      rcases ho.parts with ⟨rfl, hx⟩ | ⟨g, c', rfl, hg, hr⟩
      · rw [hx]; exact Own.nil _ _
      · exact Own.of_row (hr.setOther (a := ⟨q, 0, none⟩) (by show g ≠ q; omega) _) hg
    have e1 : xs.length - cap = 0 := by omega
    have e2 : cap - cap = 0 := by omega
    rw [e1, e2] at hO hP
    clear hR h3 hD
    go_wp2_with fail
    go_ret
    exact ⟨_, rfl, hO, hP⟩
  · rw [if_neg hcn] at hD
    go_enter Tryd.func42, Tryd.ntmps42
    go_wp2_with fail
    refine (clone_any a n cap _ _ hT (by omega)).mono ?_
    rintro e w1 ⟨v, rfl, ho, hbl⟩
    have c0' := (hbl.cell (p := ⟨q, 0, none⟩) hlt).trans c0
    have f0' := (hbl.frozen (p := ⟨q, 0, none⟩) hlt).trans f0
    have h3' : (a.map (·.add n)).map (·.block) = rb := by
      rw [← h3]; cases a with
      | none => rfl
      | some ad => simp only [Option.map_some, Option.some.injEq]; unfold Addr.add; split <;> rfl
    have hP := hR.advance hbl (hD.below hbl) h3'
    have hO : Own (w1.setCell ⟨q, 0, none⟩ (.slice (a.map (·.add n)) (xs.length - n) (cap - n))) w.heap.size v (xs.take n) := by
      rcases ho.parts with ⟨rfl, hx⟩ | ⟨g, c', rfl, hg, hr⟩
      · rw [hx]; exact Own.nil _ _
      · exact Own.of_row (hr.setOther (a := ⟨q, 0, none⟩) (by show g ≠ q; omega) _) hg
    clear hR h3 h3' hD
    go_wp2_with fail
    go_ret
    exact ⟨_, rfl, hO, hP⟩

/-- Raw, whatever it meets -/
theorem rraw_any (B q : Nat) (rb : Option Nat) (xs : List UInt8) (why : Nat) (n : Int) (w : World) (h : Rd w B q rb xs why) (hb : xs.length ≤ big) :
    Calls Tryd.prog 42 #[.pointer (some ⟨q, 0, none⟩), .int .i64 n] w fun e w' => ∃ v, e = .returned v ∧ Own w' w.heap.size v (rdRaw (xs, why) n).1 ∧ RPost w B q rb (rdRaw (xs, why) n).2 w' := by
  unfold rdRaw
  by_cases hw : why ≠ 0
  · rw [if_pos hw]
    refine (rraw_err B q rb xs why n w h hw).mono ?_
    rintro e w' ⟨rfl, rfl⟩
    exact ⟨_, rfl, Own.nil _ _, h, Chg.refl _ _⟩
  · obtain rfl : why = 0 := by omega
    rw [if_neg hw]
    by_cases hn : (xs.length : Int) < n
    · rw [if_pos hn]
      refine (rraw_end B q rb xs n w h hn).mono ?_
      rintro e w' ⟨rfl, hP⟩
      exact ⟨_, rfl, Own.nil _ _, hP⟩
    · rw [if_neg hn]
      by_cases h1 : n < 1
      · rw [if_pos h1]
        refine (rraw_none B q rb xs n w h h1).mono ?_
        rintro e w' ⟨rfl, rfl⟩
        exact ⟨_, rfl, Own.nil _ _, h, Chg.refl _ _⟩
      · rw [if_neg h1]
        obtain ⟨m, rfl⟩ := Int.eq_ofNat_of_zero_le (show 0 ≤ n by omega)
        exact rraw_some B q rb xs m w h (by omega) (by omega) hb

theorem Own.base {w : World} {B B' : Nat} {v : Value} {xs : List UInt8} (h : Own w B v xs) (hB : B' ≤ B) : Own w B' v xs := by
  rcases h.parts with ⟨rfl, rfl⟩ | ⟨g, cap, rfl, h1, hr⟩
  · exact Own.nil _ _
  · exact Own.of_row hr (by omega)

/-- bytes as a number, the highest first -/
def num (ys : List UInt8) : Nat := ys.foldl (fun n c => n * 256 + c.toNat) 0
theorem num_snoc (ys : List UInt8) (y : UInt8) : num (ys ++ [y]) = num ys * 256 + y.toNat := by simp [num]
theorem num_lt (ys : List UInt8) : num ys < 256 ^ ys.length := by
  have : ∀ n, ys.foldl (fun n c => n * 256 + c.toNat) n < (n + 1) * 256 ^ ys.length := by
    induction ys with
    | nil => intro n; simp
    | cons y ys ih =>
      intro n
      have h1 := ih (n * 256 + y.toNat)
      have h2 := y.toNat_lt
      simp only [List.foldl_cons, List.length_cons, Nat.pow_succ]
      refine Nat.lt_of_lt_of_le h1 ?_
      rw [Nat.mul_comm (256 ^ ys.length) 256, ← Nat.mul_assoc]
      exact Nat.mul_le_mul_right _ (by omega)
  simpa [num] using this 0
theorem or_byte (n c : Nat) (hn : n < 72057594037927936) (hc : c < 256) : bits .or .u64 (IntKind.u64.wrap ((n : Int) * 256)) (c : Int) = ((n * 256 + c : Nat) : Int) := by
  have e1 : IntKind.u64.wrap ((n : Int) * 256) = ((n * 256 : Nat) : Int) := by rw [IntKind.wrap_u64]; omega
  rw [e1, u64_or_nat _ _ (by omega) (by omega)]
  congr 1
  have := Nat.two_pow_add_eq_or_of_lt (i := 8) (b := c) (by omega) n
  rw [Nat.mul_comm] at this
  exact this.symm

theorem rget_any (B q : Nat) (rb : Option Nat) (xs : List UInt8) (why : Nat) (n : Nat) (w : World) (h : Rd w B q rb xs why) (hb : xs.length ≤ big) (hn : n ≤ 8) :
    Calls Tryd.prog 54 #[.pointer (some ⟨q, 0, none⟩), .int .i64 (n : Int)] w fun e w' => e = .returned (.int .u64 (num (rdRaw (xs, why) n).1 : Nat)) ∧ RPost w B q rb (rdRaw (xs, why) n).2 w' := by
  have hl : (rdRaw (xs, why) n).1.length ≤ 8 := by
    unfold rdRaw
    split
    · simp
    · split
      · simp
      · split
        · simp
        · simp; omega
  have hC := rraw_any B q rb xs why n w h hb
  generalize (rdRaw (xs, why) n).1 = ys at *
  generalize (rdRaw (xs, why) n).2 = s at *
  go_enter Tryd.func54, Tryd.ntmps54
  go_wp2_with fail
  refine hC.mono ?_
  clear hC
  rintro e w1 ⟨v, rfl, ho, hP⟩
  obtain ⟨a, cap, rfl, hB⟩ := ho.bs
  go_wp2_with fail
  go_loop [5, 12] (fun t i => ∃ k : Nat, k ≤ ys.length ∧ i = .int .i64 k ∧ t = .int .u64 (num (ys.take k) : Nat)) (fun _ i => ys.length - (intOf i).toNat)
  case atStart => exact ⟨0, by omega, rfl, rfl⟩
  case round =>
    obtain ⟨k, hk, rfl, rfl⟩ := hrel
    by_cases hlt : k < ys.length
    · obtain ⟨b, off, ha, hb, hc⟩ : ∃ b off, a = some ⟨b, off, none⟩ ∧ b < w1.heap.size ∧ ∀ i (h : i < ys.length), w1.cell? ⟨b, off + i, none⟩ = some (.int .u8 (ys[i].toNat : Int)) := by
        rcases hB.2.2.2 with h | h
        · omega
        · exact h
      subst ha
      have hck := hc k hlt
      have hor := or_byte (num (ys.take k)) (ys[k]).toNat (by
        have h1 := num_lt (ys.take k)
        have h2 : (256 : Nat) ^ (ys.take k).length ≤ 256 ^ 7 := Nat.pow_le_pow_right (by omega) (by simp; omega)
        omega) (UInt8.toNat_lt _)
      rw [← num_snoc, ← List.take_succ_eq_append_getElem hlt] at hor
      have HO := Lib.hid hor
      clear hor
      have hyl := (ys[k]).toNat_lt
      go_wp2_with fail
      rw [HO.out]
      go_round
      case rel => exact ⟨k + 1, by omega, by go_num, rfl⟩
      case measure => simp [intOf]; omega
    · obtain rfl : k = ys.length := by omega
      go_wp2_with fail
      go_ret
      exact ⟨rfl, hP⟩

theorem rdRaw_len (s : List UInt8 × Nat) (n : Nat) : (rdRaw s n).1.length ≤ n := by
  unfold rdRaw
  split
  · simp
  · split
    · simp
    · split
      · simp
      · simp; omega
theorem rdRaw_left (s : List UInt8 × Nat) (n : Int) : (rdRaw s n).2.1.length ≤ s.1.length := by
  unfold rdRaw
  split
  · simp
  · split
    · simp
    · split
      · simp
      · simp

/-- reading in plain Lean -/
def rdByte (s : List UInt8 × Nat) : Nat × (List UInt8 × Nat) := (num (rdRaw s 1).1, (rdRaw s 1).2)
def rdShort (s : List UInt8 × Nat) : Nat × (List UInt8 × Nat) := (num (rdRaw s 2).1, (rdRaw s 2).2)
def rdLong (s : List UInt8 × Nat) : Nat × (List UInt8 × Nat) := (num (rdRaw s 8).1, (rdRaw s 8).2)
def rdFlag (s : List UInt8 × Nat) : Bool × (List UInt8 × Nat) := if 1 < (rdByte s).1 then (false, ((rdByte s).2.1, 12)) else ((rdByte s).1 == 1, (rdByte s).2)
def rdBytes (s : List UInt8 × Nat) : List UInt8 × (List UInt8 × Nat) := rdRaw (rdShort s).2 (rdShort s).1
def rdLeft (s : List UInt8 × Nat) : Nat := if s.2 ≠ 0 then 0 else s.1.length
def rdEnd (s : List UInt8 × Nat) : Nat := if s.2 = 0 ∧ 0 < s.1.length then 11 else s.2

theorem rdByte_lt (s : List UInt8 × Nat) : (rdByte s).1 < 256 := by
  have h1 := num_lt (rdRaw s 1).1
  have h2 := rdRaw_len s 1
  have : (256 : Nat) ^ (rdRaw s 1).1.length ≤ 256 ^ 1 := Nat.pow_le_pow_right (by omega) h2
  unfold rdByte; simp only; omega
theorem rdShort_lt (s : List UInt8 × Nat) : (rdShort s).1 < 65536 := by
  have h1 := num_lt (rdRaw s 2).1
  have h2 := rdRaw_len s 2
  have : (256 : Nat) ^ (rdRaw s 2).1.length ≤ 256 ^ 2 := Nat.pow_le_pow_right (by omega) h2
  unfold rdShort; simp only; omega
theorem rdLong_lt (s : List UInt8 × Nat) : (rdLong s).1 < 18446744073709551616 := by
  have h1 := num_lt (rdRaw s 8).1
  have h2 := rdRaw_len s 8
  have : (256 : Nat) ^ (rdRaw s 8).1.length ≤ 256 ^ 8 := Nat.pow_le_pow_right (by omega) h2
  unfold rdLong; simp only; omega

theorem rshort_any (B q : Nat) (rb : Option Nat) (s : List UInt8 × Nat) (w : World) (h : Rd w B q rb s.1 s.2) (hb : s.1.length ≤ big) :
    Calls Tryd.prog 41 #[.pointer (some ⟨q, 0, none⟩)] w fun e w' => e = .returned (.int .i64 ((rdShort s).1 : Nat)) ∧ RPost w B q rb (rdShort s).2 w' := by
  have hC := rget_any B q rb s.1 s.2 2 w h hb (by omega)
  have hl := rdShort_lt s
  change Calls _ _ _ _ (fun e w' => e = .returned (.int .u64 ((rdShort s).1 : Nat)) ∧ RPost w B q rb (rdShort s).2 w') at hC
  generalize (rdShort s).1 = n at *
  generalize (rdShort s).2 = t at *
  go_enter Tryd.func41, Tryd.ntmps41
  go_wp2_with fail
  refine hC.mono ?_
  clear hC
  rintro e w1 ⟨rfl, hP⟩
  go_wp2_with fail
  go_ret
  exact ⟨rfl, hP⟩
theorem rlong_any (B q : Nat) (rb : Option Nat) (s : List UInt8 × Nat) (w : World) (h : Rd w B q rb s.1 s.2) (hb : s.1.length ≤ big) :
    Calls Tryd.prog 40 #[.pointer (some ⟨q, 0, none⟩)] w fun e w' => e = .returned (.int .u64 ((rdLong s).1 : Nat)) ∧ RPost w B q rb (rdLong s).2 w' := by
  have hC := rget_any B q rb s.1 s.2 8 w h hb (by omega)
  change Calls _ _ _ _ (fun e w' => e = .returned (.int .u64 ((rdLong s).1 : Nat)) ∧ RPost w B q rb (rdLong s).2 w') at hC
  generalize (rdLong s).1 = n at *
  generalize (rdLong s).2 = t at *
  go_enter Tryd.func40, Tryd.ntmps40
  go_wp2_with fail
  refine hC.mono ?_
  clear hC
  rintro e w1 ⟨rfl, hP⟩
  go_wp2_with fail
  go_ret
  exact ⟨rfl, hP⟩
theorem rnew_any (a : Option Addr) (len cap : Nat) (xs : List UInt8) (w : World) (h : Bs w a len cap xs) (hl : len ≤ big) :
    Calls Tryd.prog 39 #[.slice a len cap] w fun e w' => ∃ q rb, e = .returned (.pointer (some ⟨q, 0, none⟩)) ∧ Rd w' w.heap.size q rb xs 0 ∧ Below w.heap.size w w' := by
  go_enter Tryd.func39, Tryd.ntmps39
  go_wp2_with fail
  refine (clone_any a len cap xs _ h hl).mono ?_
  rintro e w1 ⟨v, rfl, ho, hbl⟩
  have hs := hbl.size
  rcases ho.parts with ⟨rfl, rfl⟩ | ⟨g, c', rfl, hg, hr⟩
  · go_wp2_with fail
    go_ret
    exact ⟨_, none, rfl, ⟨hs, none, 0, heap_alloc_new w1 _, Bs.nil _, rfl, by simp, by simp⟩, ((Ext.refl w).step hbl |>.alloc _).1⟩
  · have hrl := hr.lt
    go_wp2_with fail
    go_ret
    exact ⟨_, some g, rfl, ⟨hs, _, c', heap_alloc_new w1 _, (hr.alloc _).bs, rfl, by simp; omega, by simp; omega⟩, ((Ext.refl w).step hbl |>.alloc _).1⟩
end Go.Proofs.YtdglhonogopciaaDoor
