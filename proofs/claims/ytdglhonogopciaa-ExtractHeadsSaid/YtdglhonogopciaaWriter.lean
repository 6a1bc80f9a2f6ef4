/- Contracts of codec.Writer's methods. -/
import Derived.Test.YtdglhonogopciaaWput
namespace Go.Proofs.Ytdglhonogopciaa
open Go.RowKit

/-- a flag's byte -/
def fb (b : Bool) : UInt8 := if b then 1 else 0

theorem wbyte_any (B p n : Nat) (g : Option Nat) (xs : List UInt8) (w : World) (h : Wr w B p g xs) (hn : n ≤ 9223372036854775807) (hl : xs.length + 8 ≤ big) :
    Calls Try.prog 20 #[.pointer (some ⟨p, 0, none⟩), .int .i64 (n : Int)] w fun e w' => e = .returned (.tuple #[]) ∧ WPost w B p g (xs ++ [UInt8.ofNat n]) w' := by
  go_enter Try.func20, Try.ntmps20
  go_wp2_with fail
  refine (put_any B p n 1 g xs _ h (by omega) hl).mono ?_
  rintro e w' ⟨rfl, hp⟩
  go_wp2_with fail
  go_end0
  exact ⟨rfl, by simpa [be] using hp⟩
theorem wshort_any (B p n : Nat) (g : Option Nat) (xs : List UInt8) (w : World) (h : Wr w B p g xs) (hn : n ≤ 9223372036854775807) (hl : xs.length + 8 ≤ big) :
    Calls Try.prog 21 #[.pointer (some ⟨p, 0, none⟩), .int .i64 (n : Int)] w fun e w' => e = .returned (.tuple #[]) ∧ WPost w B p g (xs ++ be n 2) w' := by
  go_enter Try.func21, Try.ntmps21
  go_wp2_with fail
  refine (put_any B p n 2 g xs _ h (by omega) hl).mono ?_
  rintro e w' ⟨rfl, hp⟩
  go_wp2_with fail
  go_end0
  exact ⟨rfl, hp⟩
theorem wlong_any (B p n : Nat) (g : Option Nat) (xs : List UInt8) (w : World) (h : Wr w B p g xs) (hl : xs.length + 8 ≤ big) :
    Calls Try.prog 22 #[.pointer (some ⟨p, 0, none⟩), .int .u64 (n : Int)] w fun e w' => e = .returned (.tuple #[]) ∧ WPost w B p g (xs ++ be n 8) w' := by
  go_enter Try.func22, Try.ntmps22
  go_wp2_with fail
  refine (put_any B p n 8 g xs _ h (by omega) hl).mono ?_
  rintro e w' ⟨rfl, hp⟩
  go_wp2_with fail
  go_end0
  exact ⟨rfl, hp⟩
theorem wraw_any (B p : Nat) (g : Option Nat) (xs : List UInt8) (a : Option Addr) (len cap : Nat) (ys : List UInt8) (w : World) (h : Wr w B p g xs) (hy : Bs w a len cap ys) (hl : xs.length + len ≤ big) :
    Calls Try.prog 23 #[.pointer (some ⟨p, 0, none⟩), .slice a len cap] w fun e w' => e = .returned (.tuple #[]) ∧ WPost w B p g (xs ++ ys) w' := by
  have hWl := h.lt
  have hW := h
  obtain ⟨hB, v, hv, hown, rfl, hgp⟩ := h
  have hc := cell_of_one hv
  have hz := free_of_one hv
  go_enter Try.func23, Try.ntmps23
  go_wp2_with (at_builtin; refine wpList_append_at rfl _ _ rfl B v xs rfl hown a len cap ys rfl hy hl (by omega) ?_)
  intro v' w1 h1 h2 h3
  have hc1 := (World.grownBy.cell_far h2 ⟨p, 0, none⟩ hWl (Ne.symm hgp))
  have hz1 := (World.grownBy.frozen_far h2 ⟨p, 0, none⟩ hWl (Ne.symm hgp))
  have hP := WPost.store hW hv rfl (Below.refl _ _) h1 h2 h3
  obtain ⟨a', cap', rfl, _⟩ := h1.bs
  rw [List.length_append] at hP
  go_wp2_with fail
  go_end0
  exact ⟨rfl, hP⟩

/-- Bytes: how many (65535 at most), and them -/
def lenBytes (ys : List UInt8) : List UInt8 := be (min ys.length 65535) 2 ++ ys.take 65535
theorem Chg.bs0 {S : Nat → Prop} {w w' : World} (h : Chg S w w') {a : Option Addr} {len cap : Nat} {xs : List UInt8} (hb : Bs w a len cap xs) (hs : 0 < len → ∀ ad, a = some ad → ¬ S ad.block) : Bs w' a len cap xs := by
  rcases Nat.eq_zero_or_pos len with h0 | h0
  · subst h0; exact ⟨hb.1, hb.2.1, hb.2.2.1, .inl rfl⟩
  · exact h.bs hb (hs h0)
theorem Wr.apart {w wr : World} {p q : Nat} {g : Option Nat} {xs ys : List UInt8} {a : Option Addr} {len cap : Nat} (h : Wr wr p q g xs) (hB : Bs w a len cap ys) (hw : w.heap.size ≤ p) :
    0 < len → ∀ ad, a = some ad → ¬ WS q g ad.block := by
  intro h0 ad had hk
  rcases hB.2.2.2 with h1 | ⟨b, off, h1, h2, _⟩
  · omega
  · rw [had] at h1; cases h1
    rcases hk with hk | hk
    · have := h.base; simp only at hk; omega
    · subst hk; have := h.row_lt.2; simp only at this; omega
theorem wdone_any (B p : Nat) (g : Option Nat) (xs : List UInt8) (w : World) (h : Wr w B p g xs) (hl : xs.length ≤ big) :
    Calls Try.prog 25 #[.pointer (some ⟨p, 0, none⟩)] w fun e w' => ∃ v, e = .returned v ∧ Own w' w.heap.size v xs ∧ Below w.heap.size w w' := by
  obtain ⟨hB, v, hv, hown, rfl, hgp⟩ := h
  have hc := cell_of_one hv
  obtain ⟨a, cap, rfl, hb⟩ := hown.bs
  go_enter Try.func25, Try.ntmps25
  go_wp2_with fail
  refine (clone_any a _ cap xs _ hb hl).mono ?_
  rintro e w' ⟨v, rfl, ho, hbl⟩
  go_wp2_with fail
  go_ret
  exact ⟨_, rfl, ho, hbl⟩

theorem wnew_any (w : World) :
    Calls Try.prog 19 #[] w fun e w' => e = .returned (.pointer (some ⟨w.heap.size, 0, none⟩)) ∧ Wr w' w.heap.size w.heap.size none [] ∧ Below w.heap.size w w' := by
  go_enter Try.func19, Try.ntmps19
  go_wp2_with fail
  go_ret
  exact ⟨rfl, ⟨Nat.le_refl _, .slice none 0 0, heap_alloc_new w _, Own.nil _ _, rfl, by simp⟩, (Below.refl _ _).alloc (Nat.le_refl _) _⟩
end Go.Proofs.Ytdglhonogopciaa
