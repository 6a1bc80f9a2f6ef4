/- A reply that came in. -/
import Derived.Test.YtphjdlckoddgmaaRpRef
import Derived.Test.YtphjdlckoddgmaaArg
import Derived.Test.YtphjdlckoddgmaaOpArg
namespace Go.Proofs.Ytphjdlckoddgmaa
open Go.RowKit

theorem ten_of {l : List Value} (h : l.length = 10) : ∃ x0 x1 x2 x3 x4 x5 x6 x7 x8 x9, l = [x0, x1, x2, x3, x4, x5, x6, x7, x8, x9] := by
  match l, h with
  | [x0, x1, x2, x3, x4, x5, x6, x7, x8, x9], _ => exact ⟨_, _, _, _, _, _, _, _, _, _, rfl⟩
theorem Arg.reply {w : World} {v : Value} (h : Arg Try.prog w 45 v) :
    ∃ (e n : Int) (da : Option Addr) (dl dc : Nat) (ds : List UInt8) (na : Option Addr) (nl nc : Nat) (ls : List (List UInt8)) (nd : Nd), v = .agg (rpCells e n da dl dc na nl nc nd) ∧ Bs w da dl dc ds ∧ Ss w na nl nc ls ∧ nd.til < 18446744073709551616 ∧ -9223372036854775808 ≤ e ∧ e ≤ 9223372036854775807 := by
  obtain ⟨cs, rfl, hs, hf⟩ := h.struct Try.underlying45
  rw [show Try.prog.cellsOf 45 = 10 by kernel_rfl] at hs
  obtain ⟨l⟩ := cs
  obtain ⟨x0, x1, x2, x3, x4, x5, x6, x7, x8, x9, rfl⟩ := ten_of (l := l) (by simpa using hs)
  have q0 : Can Try.prog w 35 (([x0, x1, x2, x3, x4, x5, x6, x7, x8, x9].drop 0).take (Try.prog.cellsOf 35)) := hf 0 _ rfl
  have q1 : Can Try.prog w 3 (([x0, x1, x2, x3, x4, x5, x6, x7, x8, x9].drop 1).take (Try.prog.cellsOf 3)) := hf 1 _ rfl
  have q2 : Can Try.prog w 23 (([x0, x1, x2, x3, x4, x5, x6, x7, x8, x9].drop 2).take (Try.prog.cellsOf 23)) := hf 2 _ rfl
  have q3 : Can Try.prog w 41 (([x0, x1, x2, x3, x4, x5, x6, x7, x8, x9].drop 3).take (Try.prog.cellsOf 41)) := hf 3 _ rfl
  have q4 : Can Try.prog w 43 (([x0, x1, x2, x3, x4, x5, x6, x7, x8, x9].drop 4).take (Try.prog.cellsOf 43)) := hf 4 _ rfl
  rw [show Try.prog.cellsOf 35 = 1 by kernel_rfl] at q0
  rw [show Try.prog.cellsOf 3 = 1 by kernel_rfl] at q1
  rw [show Try.prog.cellsOf 23 = 1 by kernel_rfl] at q2
  rw [show Try.prog.cellsOf 41 = 1 by kernel_rfl] at q3
  rw [show Try.prog.cellsOf 43 = 6 by kernel_rfl] at q4
  obtain ⟨_, hfn⟩ := q4.struct Try.underlying43
  simp only [List.drop_succ_cons, List.drop_zero, List.take_succ_cons, List.take_zero] at hfn
  have r0 : Can Try.prog w 3 (([x4, x5, x6, x7, x8, x9].drop 0).take (Try.prog.cellsOf 3)) := hfn 0 _ rfl
  have r1 : Can Try.prog w 3 (([x4, x5, x6, x7, x8, x9].drop 1).take (Try.prog.cellsOf 3)) := hfn 1 _ rfl
  have r2 : Can Try.prog w 3 (([x4, x5, x6, x7, x8, x9].drop 2).take (Try.prog.cellsOf 3)) := hfn 2 _ rfl
  have r3 : Can Try.prog w 3 (([x4, x5, x6, x7, x8, x9].drop 3).take (Try.prog.cellsOf 3)) := hfn 3 _ rfl
  have r4 : Can Try.prog w 22 (([x4, x5, x6, x7, x8, x9].drop 4).take (Try.prog.cellsOf 22)) := hfn 4 _ rfl
  have r5 : Can Try.prog w 4 (([x4, x5, x6, x7, x8, x9].drop 5).take (Try.prog.cellsOf 4)) := hfn 5 _ rfl
  rw [show Try.prog.cellsOf 3 = 1 by kernel_rfl] at r0 r1 r2 r3
  rw [show Try.prog.cellsOf 22 = 1 by kernel_rfl] at r4
  rw [show Try.prog.cellsOf 4 = 1 by kernel_rfl] at r5
  obtain ⟨e, h0, hew⟩ := q0.int Try.underlying35
  obtain ⟨n, h1, _⟩ := q1.int Try.underlying3
  obtain ⟨a, len, cap, xs, h2, hB⟩ := q2.bytes Try.underlying23 Try.underlying5 (by kernel_rfl)
  obtain ⟨na, nl, nc, ls, h3, hS, _⟩ := q3.strs
  obtain ⟨i0, h4, _⟩ := r0.int Try.underlying3
  obtain ⟨i1, h5, _⟩ := r1.int Try.underlying3
  obtain ⟨i2, h6, _⟩ := r2.int Try.underlying3
  obtain ⟨i3, h7, _⟩ := r3.int Try.underlying3
  obtain ⟨t, h8, htw⟩ := r4.int Try.underlying22
  obtain ⟨c, h9⟩ := r5.bool Try.underlying4
  have hb : 0 ≤ t ∧ t < 18446744073709551616 := by simp [Lit.wf, IntKind.min, IntKind.max, IntKind.bits, IntKind.signed] at htw; omega
  have heb : -9223372036854775808 ≤ e ∧ e ≤ 9223372036854775807 := by simp [Lit.wf, IntKind.min, IntKind.max, IntKind.bits, IntKind.signed] at hew; omega
  obtain ⟨m, rfl⟩ : ∃ m : Nat, t = (m : Int) := ⟨t.toNat, by omega⟩
  simp at h0 h1 h2 h3 h4 h5 h6 h7 h8 h9
  subst h0 h1 h2 h3 h4 h5 h6 h7 h8 h9
  exact ⟨e, n, a, len, cap, xs, na, nl, nc, ls, ⟨i0, i1, i2, i3, m, c⟩, rfl, hB, hS, by simp; omega, heb.1, heb.2⟩
end Go.Proofs.Ytphjdlckoddgmaa
