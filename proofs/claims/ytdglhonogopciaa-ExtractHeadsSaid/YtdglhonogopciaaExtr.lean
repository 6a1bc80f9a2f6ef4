/- extract.fine, Clash, clash, Heads; the law's clash. -/
import Derived.Test.YtdglhonogopciaaSegRow
import Derived.Test.YtdglhonogopciaaShaRef
import Derived.Test.YtdglhonogopciaaHeld
namespace Go.Proofs.Ytdglhonogopciaa
open Go.RowKit

theorem beq_any (a1 a2 : Option Addr) (l1 l2 c1 c2 : Nat) (xs ys : List UInt8) (w : World) (h1 : Bs w a1 l1 c1 xs) (h2 : Bs w a2 l2 c2 ys) :
    Calls Try.prog 28 #[.slice a1 l1 c1, .slice a2 l2 c2] w fun e w' => e = .returned (.bool (decide (xs = ys))) ∧ w = w' := by
  have s1 := run_string h1
  have s2 := run_string h2
  have hd : ((strOf xs).toList == (strOf ys).toList) = decide (xs = ys) := by
    rw [strOf_toList, strOf_toList, Bool.eq_iff_iff]; simp
  go_enter Try.func28, Try.ntmps28
  go_wp2
  go_ret
  exact ⟨rfl, rfl⟩

theorem fine_ok (i f c : Nat) (n : Int) (pa ra : Option Addr) (pc rc : Nat) (w : World) (hi : i ≤ 65535) (hc : c ≤ 65535) (hf : f ≤ 1099511627776) :
    Calls Try.prog 13 #[.agg (hdCells i f c n pa pc ra rc)] w fun e w' => e = .returned (.bool true) ∧ Below w.heap.size w w' := by
  unfold hdCells
  have hb : Below w.heap.size w (w.alloc (.cells #[.int .i64 (i : Int), .int .u64 (f : Int), .int .i64 (c : Int), .int .i64 n, .slice pa 32 pc, .slice ra 32 rc] 25)) := (Below.refl _ _).alloc (Nat.le_refl _) _
  have e1 : (0 : Int) ≤ (i : Int) := by omega
  have e2 : (i : Int) ≤ 65535 := by omega
  have e3 : (0 : Int) ≤ (c : Int) := by omega
  have e4 : (c : Int) ≤ 65535 := by omega
  have e5 : (f : Int) ≤ 1099511627776 := by omega
  go_enter Try.func13, Try.ntmps13
  go_wp2_with fail
  go_ret
  exact ⟨rfl, hb⟩

set_option maxRecDepth 100000 in
set_option maxHeartbeats 1000000 in
theorem xClash_any (a1 a2 : Option Addr) (l1 l2 c1 c2 : Nat) (xs ys : List UInt8) (w : World) (h1 : Bs w a1 l1 c1 xs) (h2 : Bs w a2 l2 c2 ys) (hl1 : l1 ≤ 100000) (hl2 : l2 ≤ 100000) :
    Calls Try.prog 17 #[.slice a1 l1 c1, .slice a2 l2 c2] w fun e w' => e = .returned (.bool (decide (xs ≠ ys ∧ sha xs = sha ys))) ∧ Below w.heap.size w w' := by
  by_cases he : xs = ys
  · have hd : decide (xs ≠ ys ∧ sha xs = sha ys) = false := by simp [he]
    have hd2 : decide (xs = ys) = true := by simp [he]
    rw [hd]
    have HE := Lib.hid (beq_any a1 a2 l1 l2 c1 c2 xs ys w h1 h2)
    rw [hd2] at HE
    clear h1 h2 hd hd2 he
    go_enter Try.func17, Try.ntmps17
    go_wp2_with fail
    refine HE.out.mono ?_
    rintro e w1 ⟨rfl, rfl⟩
    go_wp2_with fail
    go_ret
    exact ⟨rfl, Below.refl _ _⟩
  · have hd : decide (xs ≠ ys ∧ sha xs = sha ys) = decide (sha xs = sha ys) := by simp [he]
    have hd2 : decide (xs = ys) = false := by simp [he]
    rw [hd]
    have HE := Lib.hid (beq_any a1 a2 l1 l2 c1 c2 xs ys w h1 h2)
    rw [hd2] at HE
    clear hd hd2 he
    go_enter Try.func17, Try.ntmps17
    go_wp2_with fail
    refine HE.out.mono ?_
    rintro e w1 ⟨rfl, rfl⟩
    go_wp2_with fail
    refine (shasum_any a1 l1 c1 xs _ h1 (by omega)).mono ?_
    rintro e w2 ⟨v1, rfl, ho1, hb1⟩
    obtain ⟨s1, k1, rfl, hS1⟩ := ho1.bsn (n := 32) (sha_length _)
    have hE := (Ext.refl w).step hb1
    have h2' := h2.below hb1
    clear ho1 hb1 HE h1 h2
    go_wp2_with fail
    refine (shasum_any a2 l2 c2 ys _ h2' (by omega)).mono ?_
    rintro e w3 ⟨v2, rfl, ho2, hb2⟩
    obtain ⟨s2, k2, rfl, hS2⟩ := ho2.bsn (n := 32) (sha_length _)
    have hE2 := hE.step hb2
    have hS1' := hS1.below hb2
    clear ho2 hb2 h2' hS1 hE
    go_wp2_with fail
    refine (beq_any s1 s2 32 32 k1 k2 (sha xs) (sha ys) _ hS1' hS2).mono ?_
    rintro e w4 ⟨rfl, rfl⟩
    go_wp2_with fail
    go_ret
    exact ⟨rfl, hE2.1⟩

/-- the two that clash, or nothing -/
def ClashPost (w : World) (xs ys : List UInt8) (x y : Value) (e : Ending) (w' : World) : Prop :=
  ∃ x' y' b, e = .returned (.tuple #[x', y', .bool b]) ∧ ((xs ≠ ys ∧ sha xs = sha ys) ∧ x' = x ∧ y' = y ∧ b = true ∨ ¬ (xs ≠ ys ∧ sha xs = sha ys) ∧ x' = .slice none 0 0 ∧ y' = .slice none 0 0 ∧ b = false) ∧ Below w.heap.size w w'
theorem xclash_any (a1 a2 : Option Addr) (l1 l2 c1 c2 : Nat) (xs ys : List UInt8) (w : World) (h1 : Bs w a1 l1 c1 xs) (h2 : Bs w a2 l2 c2 ys) (hl1 : l1 ≤ 100000) (hl2 : l2 ≤ 100000) :
    Calls Try.prog 14 #[.slice a1 l1 c1, .slice a2 l2 c2] w (ClashPost w xs ys (.slice a1 l1 c1) (.slice a2 l2 c2)) := by
  have HC := Lib.hid (xClash_any a1 a2 l1 l2 c1 c2 xs ys w h1 h2 hl1 hl2)
  clear h1 h2
  by_cases he : xs ≠ ys ∧ sha xs = sha ys
  · rw [decide_eq_true he] at HC
    have HH := Lib.hid he
    clear he
    go_enter Try.func14, Try.ntmps14
    go_wp2_with fail
    refine HC.out.mono ?_
    rintro e w1 ⟨rfl, hb⟩
    go_wp2_with fail
    go_ret3
    exact ⟨_, _, _, rfl, .inl ⟨HH.out, rfl, rfl, rfl⟩, hb⟩
  · rw [decide_eq_false he] at HC
    have HH := Lib.hid he
    clear he
    go_enter Try.func14, Try.ntmps14
    go_wp2_with fail
    refine HC.out.mono ?_
    rintro e w1 ⟨rfl, hb⟩
    go_wp2_with fail
    go_ret3
    exact ⟨_, _, _, rfl, .inr ⟨HH.out, rfl, rfl, rfl⟩, hb⟩
end Go.Proofs.Ytdglhonogopciaa
