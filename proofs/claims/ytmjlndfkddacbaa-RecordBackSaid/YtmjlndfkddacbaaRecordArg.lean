/- A record that came in. -/
import Derived.Test.YtmjlndfkddacbaaRecordNo
import Derived.Test.YtmjlndfkddacbaaArg
namespace Go.Proofs.Ytmjlndfkddacbaa
open Go.RowKit

theorem three_of {l : List Value} (h : l.length = 3) : ∃ x0 x1 x2, l = [x0, x1, x2] := by
  match l, h with
  | [x0, x1, x2], _ => exact ⟨x0, x1, x2, rfl⟩
set_option maxRecDepth 100000 in
theorem Arg.record {w : World} {v : Value} (h : Arg Try.prog w 27 v) :
    ∃ (k : Int) (n : Nat) (a : Option Addr) (len cap : Nat) (xs : List UInt8), v = .agg #[.int .i64 k, .int .u64 (n : Int), .slice a len cap] ∧ n < 18446744073709551616 ∧ Bs w a len cap xs := by
  obtain ⟨cs, rfl, hs, hf⟩ := h.struct Try.underlying27
  rw [show Try.prog.cellsOf 27 = 3 by kernel_rfl] at hs
  obtain ⟨l⟩ := cs
  obtain ⟨x0, x1, x2, rfl⟩ := three_of (l := l) (by simpa using hs)
  have q0 : Can Try.prog w 3 (([x0, x1, x2].drop 0).take (Try.prog.cellsOf 3)) := hf 0 _ rfl
  have q1 : Can Try.prog w 23 (([x0, x1, x2].drop 1).take (Try.prog.cellsOf 23)) := hf 1 _ rfl
  have q2 : Can Try.prog w 25 (([x0, x1, x2].drop 2).take (Try.prog.cellsOf 25)) := hf 2 _ rfl
  rw [show Try.prog.cellsOf 3 = 1 by kernel_rfl] at q0
  rw [show Try.prog.cellsOf 23 = 1 by kernel_rfl] at q1
  rw [show Try.prog.cellsOf 25 = 1 by kernel_rfl] at q2
  obtain ⟨k, hk, _⟩ := q0.int Try.underlying3
  obtain ⟨t, ht, htw⟩ := q1.int Try.underlying23
  obtain ⟨a, len, cap, xs, h2, hB⟩ := q2.bytes Try.underlying25 Try.underlying5 (by kernel_rfl)
  have hb : 0 ≤ t ∧ t < 18446744073709551616 := by simp [Lit.wf, IntKind.min, IntKind.max, IntKind.bits, IntKind.signed] at htw; omega
  obtain ⟨m, rfl⟩ : ∃ m : Nat, t = (m : Int) := ⟨t.toNat, by omega⟩
  simp at hk ht h2
  subst hk ht h2
  exact ⟨k, m, a, len, cap, xs, rfl, by omega, hB⟩
end Go.Proofs.Ytmjlndfkddacbaa
