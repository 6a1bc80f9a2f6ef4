/- A slice of ints that came in; a part of a row of bytes. -/
import Derived.Test.YtaomkjnkfkahhaaArg
namespace Go.Proofs.Ytaomkjnkfkahhaa
open Go.RowKit

def Ints (w : World) (a : Option Addr) (len cap : Nat) (xs : List Int) : Prop :=
  xs.length = len ∧ len ≤ cap ∧ cap ≤ maxLen ∧ (len = 0 ∨ ∃ b off, a = some ⟨b, off, none⟩ ∧ b < w.heap.size ∧ ∀ i (h : i < xs.length), w.cell? ⟨b, off + i, none⟩ = some (.int .i64 xs[i]))
theorem Arg.ints {P : Program} {w : World} {t e : TypeId} {v : Value} (h : Arg P w t v) (ht : P.underlying t = some (.slice e)) (he : P.underlying e = some (.int .i64)) (hs : P.cellsOf e = 1) :
    ∃ (a : Option Addr) (len cap : Nat) (xs : List Int), v = .slice a len cap ∧ Ints w a len cap xs := by
  obtain ⟨a, len, cap, rfl, h2⟩ := h.sliceCan ht
  obtain ⟨a', len', cap', h3, h5, h6, h4⟩ := h2.elems ht (by omega)
  cases h3
  refine ⟨a, len, cap, ?_⟩
  rcases h4 with rfl | ⟨b, off, rfl, hb, hc⟩
  · exact ⟨[], rfl, rfl, h5, h6, .inl rfl⟩
  · have hx : ∀ i, i < len → ∃ x : Int, w.cell? ⟨b, off + i, none⟩ = some (.int .i64 x) := fun i hi => by
      obtain ⟨cs', hr, hl, hc'⟩ := hc i hi
      obtain ⟨n, rfl, hw⟩ := hr.int he
      have := hc' 0 (by simp)
      rw [hs, Nat.mul_one] at this
      exact ⟨n, by simpa using this⟩
    obtain ⟨f, hf⟩ := Deep.choose_lt hx
    exact ⟨(List.range len).map f, rfl, by simp, h5, h6, .inr ⟨b, off, rfl, hb, fun i hi => by simp at hi; simpa using hf i hi⟩⟩
theorem Ints.at {w : World} {a : Option Addr} {len cap : Nat} {xs : List Int} (h : Ints w a len cap xs) (h0 : 0 < len) : ∃ b off, a = some ⟨b, off, none⟩ ∧ b < w.heap.size ∧ ∀ i (h : i < xs.length), w.cell? ⟨b, off + i, none⟩ = some (.int .i64 xs[i]) := by
  rcases h.2.2.2 with h1 | h1
  · omega
  · exact h1
/-- a part of a row of bytes -/
theorem Bs.mid {w : World} {a : Option Addr} {len cap : Nat} {xs : List UInt8} (h : Bs w a len cap xs) {k d : Nat} (hk : k + d ≤ len) : Bs w (if cap = k then a else a.map (·.add k)) d (cap - k) ((xs.drop k).take d) :=
  (h.drop (k := k) (by omega)).take (by omega)
/-- where a row lies -/
theorem Bs.blk {w : World} {a : Option Addr} {len cap : Nat} {xs : List UInt8} (h : Bs w a len cap xs) (h0 : 0 < len) (ad : Addr) (ha : a = some ad) : ad.block < w.heap.size := by
  rcases h.2.2.2 with h1 | ⟨b, o, e, h5, _⟩
  · omega
  · rw [e] at ha; injection ha with ha; rw [← ha]; exact h5
theorem take_drop_take {α : Type} (xs : List α) (k d : Nat) : xs.take k ++ (xs.drop k).take d = xs.take (k + d) := by
  rw [List.take_add]
end Go.Proofs.Ytaomkjnkfkahhaa
