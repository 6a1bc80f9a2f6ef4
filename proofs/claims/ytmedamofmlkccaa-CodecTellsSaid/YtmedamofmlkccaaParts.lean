/- The parts that a law of codec is handed. -/
import Derived.Test.YtmedamofmlkccaaCodecKnown
import Derived.Test.YtmedamofmlkccaaArg
namespace Go.Proofs.Ytmedamofmlkccaa
open Go.RowKit

structure Pt where
  kind : Int
  n : Nat
  a : Option Addr
  len : Nat
  cap : Nat
  xs : List UInt8
instance : Inhabited Pt := ⟨⟨0, 0, none, 0, 0, []⟩⟩
def Pt.In (w : World) (b o : Nat) (p : Pt) : Prop :=
  w.cell? ⟨b, o, none⟩ = some (.int .i64 p.kind) ∧ (Lit.int .i64 p.kind).wf = true ∧ w.cell? ⟨b, o + 1, none⟩ = some (.int .u64 (p.n : Int)) ∧ p.n < 18446744073709551616 ∧
  w.cell? ⟨b, o + 2, none⟩ = some (.slice p.a p.len p.cap) ∧ Bs w p.a p.len p.cap p.xs
def Parts (w : World) (a : Option Addr) (len cap : Nat) (ps : List Pt) : Prop :=
  ps.length = len ∧ len ≤ cap ∧ cap ≤ maxLen ∧ (len = 0 ∨ ∃ b off, a = some ⟨b, off, none⟩ ∧ b < w.heap.size ∧ ∀ i (h : i < ps.length), ps[i].In w b (off + i * 3))
theorem u64_nat (n : Int) (h : (Lit.int .u64 n).wf = true) : ∃ m : Nat, n = (m : Int) ∧ m < 18446744073709551616 := by
  have hb : 0 ≤ n ∧ n < 18446744073709551616 := by simp [Lit.wf, IntKind.min, IntKind.max, IntKind.bits, IntKind.signed] at h; omega
  exact ⟨n.toNat, by omega, by omega⟩
theorem Arg.parts {w : World} {v : Value} (h : Arg Try.prog w 35 v) :
    ∃ (a : Option Addr) (len cap : Nat) (ps : List Pt), v = .slice a len cap ∧ Parts w a len cap ps := by
  obtain ⟨a, len, cap, rfl, h2⟩ := h.sliceCan Try.underlying35
  have hs : Try.prog.cellsOf 39 = 3 := by kernel_rfl
  obtain ⟨a', len', cap', h3, h5, h6, h4⟩ := h2.elems Try.underlying35 (by omega)
  cases h3
  refine ⟨a, len, cap, ?_⟩
  rcases h4 with rfl | ⟨b, off, rfl, hb, hc⟩
  · exact ⟨[], rfl, rfl, h5, h6, .inl rfl⟩
  · have hx : ∀ i, i < len → ∃ p : Pt, p.In w b (off + i * 3) := fun i hi => by
      obtain ⟨cs, hr, hl, hcc⟩ := hc i hi
      rw [hs] at hl hcc
      obtain ⟨x, y, z, rfl⟩ : ∃ x y z, cs = [x, y, z] := by
        match cs, hl with
        | [x, y, z], _ => exact ⟨x, y, z, rfl⟩
      have hst := (hr.struct Try.underlying39).2
      have q0 : Can Try.prog w 3 (([x, y, z].drop 0).take (Try.prog.cellsOf 3)) := hst 0 _ rfl
      have q1 : Can Try.prog w 37 (([x, y, z].drop 1).take (Try.prog.cellsOf 37)) := hst 1 _ rfl
      have q2 : Can Try.prog w 26 (([x, y, z].drop 2).take (Try.prog.cellsOf 26)) := hst 2 _ rfl
      rw [show Try.prog.cellsOf 3 = 1 by kernel_rfl] at q0
      rw [show Try.prog.cellsOf 37 = 1 by kernel_rfl] at q1
      rw [show Try.prog.cellsOf 26 = 1 by kernel_rfl] at q2
      obtain ⟨k, hk, hkw⟩ := q0.int Try.underlying3
      obtain ⟨n, hn, hnw⟩ := q1.int Try.underlying37
      obtain ⟨a2, l2, c2, xs, h2, hB⟩ := q2.bytes Try.underlying26 Try.underlying5 (by kernel_rfl)
      obtain ⟨m, rfl, hm⟩ := u64_nat n hnw
      simp at hk hn h2
      subst hk hn h2
      exact ⟨⟨k, m, a2, l2, c2, xs⟩, hcc 0 (by simp), hkw, hcc 1 (by simp), hm, hcc 2 (by simp), hB⟩
    obtain ⟨f, hf⟩ := Deep.choose_lt hx
    exact ⟨(List.range len).map f, rfl, by simp, h5, h6, .inr ⟨b, off, rfl, hb, fun i hi => by simp at hi; simpa using hf i hi⟩⟩
theorem Parts.at {w : World} {a : Option Addr} {len cap : Nat} {ps : List Pt} (h : Parts w a len cap ps) :
    ∃ b off, Hid (0 < len → a = some ⟨b, off, none⟩ ∧ b < w.heap.size ∧ ∀ i (h : i < ps.length), ps[i].In w b (off + i * 3)) := by
  rcases h.2.2.2 with h | ⟨b, off, h1, h2, h3⟩
  · exact ⟨0, 0, Lib.hid fun h' => by omega⟩
  · exact ⟨b, off, Lib.hid fun _ => ⟨h1, h2, h3⟩⟩

end Go.Proofs.Ytmedamofmlkccaa
