/- What the walk of a law is told of an argument of whatever type: it can be read as data. And how such an argument is opened. -/
import Derived.Test.YtklckjmlifddjaaBase
import Derived.ProofKit
import Derived.Deep.Slices
import Derived.ChangeOld
namespace Go.Proofs.Ytklckjmlifddjaa
open Go.RowKit

section
variable {P : Program}

/-- these cells read as data of type t -/
def Can (P : Program) (w : World) (t : TypeId) (cs : List Value) : Prop :=
  ∃ (H : Type) (enc : TypeId × Value → H) (fuel : Nat) (x : DataW H × List MemPlace), DataW.trod enc P w 0 (fun _ => true) true fuel t cs = some x
/-- an argument: a value of type t's shape that reads as data -/
def Arg (P : Program) (w : World) (t : TypeId) (v : Value) : Prop := (∃ b r, Value.okWide P w r b t v) ∧ Can P w t v.cells.toList

theorem Can.int {w : World} {t : TypeId} {cs : List Value} {k : IntKind} (h : Can P w t cs) (ht : P.underlying t = some (.int k)) : ∃ n, cs = [.int k n] ∧ (Lit.int k n).wf = true := by
  obtain ⟨H, enc, fuel, x, h⟩ := h
  obtain ⟨n, h1, _, h3⟩ := DataW.trod_int ht h
  exact ⟨n, h1, h3⟩
theorem Can.bool {w : World} {t : TypeId} {cs : List Value} (h : Can P w t cs) (ht : P.underlying t = some .bool) : ∃ b, cs = [.bool b] := by
  obtain ⟨H, enc, fuel, x, h⟩ := h
  obtain ⟨n, h1, _⟩ := DataW.trod_bool ht h
  exact ⟨n, h1⟩
theorem Can.string {w : World} {t : TypeId} {cs : List Value} (h : Can P w t cs) (ht : P.underlying t = some .string) : ∃ s : ByteArray, cs = [.string s] ∧ s.size ≤ maxLen := by
  obtain ⟨H, enc, fuel, x, h⟩ := h
  obtain ⟨n, h1, _, h3⟩ := DataW.trod_string ht h
  exact ⟨n, h1, h3⟩
theorem Can.slice {w : World} {t e : TypeId} {cs : List Value} (h : Can P w t cs) (ht : P.underlying t = some (.slice e)) :
    (cs = [.slice none 0 0]) ∨ ∃ (a : Addr) (len cap : Nat), cs = [.slice (some a) len cap] ∧ len ≤ cap ∧ cap ≤ maxLen ∧
      ∀ i, i < cap → ∃ cs', w.cells? 0 (a.add (i * P.cellsOf e)) (P.cellsOf e) = some cs' ∧ Can P w e cs' := by
  obtain ⟨H, enc, fuel, x, h⟩ := h
  rcases Deep.open_slice ht h with ⟨h, _⟩ | ⟨a, len, cap, m, n, D, Pl, h1, _, h3, h4, h5, _, h7⟩
  · exact .inl h
  · refine .inr ⟨a, len, cap, h1, h3, h4, fun i hi => ?_⟩
    obtain ⟨cs', h8, h9⟩ := h7 i (by rw [h5]; exact hi)
    exact ⟨cs', h8, H, enc, n, _, h9⟩
theorem Can.struct {w : World} {t : TypeId} {cs : List Value} {fs : Array Field} (h : Can P w t cs) (ht : P.underlying t = some (.struct fs)) :
    cs.length = P.cellsOf t ∧ ∀ (i : Nat) (f : Field), fs[i]? = some f → Can P w f.type ((cs.drop f.offset).take (P.cellsOf f.type)) := by
  obtain ⟨H, enc, fuel, x, h⟩ := h
  obtain ⟨xs, n, _, _, h3, h4, h5⟩ := DataW.trod_struct ht h
  refine ⟨h3, fun i f hf => ?_⟩
  have hi : i < xs.length := by rw [h4]; exact (Array.getElem?_eq_some_iff.1 hf).1
  exact ⟨H, enc, n, xs[i], by rw [h5 i f hf]; exact List.getElem?_eq_getElem hi⟩

/-- cells that are read stand in a block, at an address without a spot -/
theorem cells?_at {w : World} {a : Addr} {n : Nat} {cs : List Value} (h : w.cells? 0 a n = some cs) (hn : 0 < n) :
    ∃ b off, a = ⟨b, off, none⟩ ∧ b < w.heap.size ∧ cs.length = n ∧ ∀ j (hj : j < cs.length), w.cell? ⟨b, off + j, none⟩ = some cs[j] := by
  obtain ⟨_, h2, h3⟩ := World.cells?_some h
  obtain ⟨b, off, spot⟩ := a
  have h0 := h3 0 hn
  simp only [Addr.add, if_true] at h0
  have hlen : 0 < cs.length := by omega
  rw [List.getElem?_eq_getElem hlen] at h0
  have hspot : spot = none := World.cell?_spot h0
  subst hspot
  refine ⟨b, off, rfl, World.block_lt_of_cell? w _ h0, h2, fun j hj => ?_⟩
  have hj3 := h3 j (by omega)
  have he : (⟨b, off, none⟩ : Addr).add j = ⟨b, off + j, none⟩ := by by_cases hi0 : j = 0 <;> simp [Addr.add, hi0]
  rw [he] at hj3
  rw [hj3, List.getElem?_eq_getElem hj]

theorem addr_add_inv {a : Addr} {n b o : Nat} (h : a.add n = ⟨b, o, none⟩) (ha : a.spot = none) : a = ⟨b, o - n, none⟩ ∧ n ≤ o := by
  obtain ⟨b', o', s⟩ := a
  obtain rfl : s = none := ha
  by_cases hn : n = 0
  · subst hn; simp [Addr.add] at h; obtain ⟨rfl, rfl⟩ := h; simp
  · simp [Addr.add, hn] at h; obtain ⟨rfl, rfl⟩ := h; simp

/-- a slice that came in, whatever its elements (of 'size' cells each): where its elements lie -/
theorem Can.elems {w : World} {t e : TypeId} {cs : List Value} (h : Can P w t cs) (ht : P.underlying t = some (.slice e)) (hs : 0 < P.cellsOf e) :
    ∃ (a : Option Addr) (len cap : Nat), cs = [.slice a len cap] ∧ len ≤ cap ∧ cap ≤ maxLen ∧ (len = 0 ∨ ∃ b off, a = some ⟨b, off, none⟩ ∧ b < w.heap.size ∧
      ∀ i, i < len → ∃ cs' : List Value, Can P w e cs' ∧ cs'.length = P.cellsOf e ∧ ∀ j (hj : j < cs'.length), w.cell? ⟨b, off + i * P.cellsOf e + j, none⟩ = some cs'[j]) := by
  rcases h.slice ht with rfl | ⟨a, len, cap, rfl, h2, h3, h4⟩
  · exact ⟨none, 0, 0, rfl, Nat.le_refl _, by simp [maxLen], .inl rfl⟩
  · refine ⟨some a, len, cap, rfl, h2, h3, ?_⟩
    by_cases h0 : len = 0
    · exact .inl h0
    · obtain ⟨cs0, hc0, _⟩ := h4 0 (by omega)
      obtain ⟨b, off, ha, hb, _, _⟩ := cells?_at hc0 hs
      rw [Nat.zero_mul] at ha
      have ha' : a = ⟨b, off, none⟩ := by simpa [Addr.add] using ha
      subst ha'
      refine .inr ⟨b, off, rfl, hb, fun i hi => ?_⟩
      obtain ⟨cs', hc', hr⟩ := h4 i (by omega)
      obtain ⟨b', off', ha', _, hl', hc''⟩ := cells?_at hc' hs
      have he : (⟨b, off, none⟩ : Addr).add (i * P.cellsOf e) = ⟨b, off + i * P.cellsOf e, none⟩ := by
        by_cases hi0 : i * P.cellsOf e = 0 <;> simp [Addr.add, hi0]
      rw [he] at ha'
      cases ha'
      exact ⟨cs', hr, hl', hc''⟩

theorem lits_u8 (n : Int) (h : (Lit.int .u8 n).wf = true) : (.int .u8 n : Value) = bv (byteOf n) := by
  unfold bv; rw [byteOf_toNat h]

/-- a slice of bytes that came in -/
theorem Can.bytes {w : World} {t e : TypeId} {cs : List Value} (h : Can P w t cs) (ht : P.underlying t = some (.slice e)) (he : P.underlying e = some (.int .u8)) (hs : P.cellsOf e = 1) :
    ∃ (a : Option Addr) (len cap : Nat) (xs : List UInt8), cs = [.slice a len cap] ∧ Bs w a len cap xs := by
  obtain ⟨a, len, cap, rfl, h2, h3, h4⟩ := h.elems ht (by omega)
  refine ⟨a, len, cap, ?_⟩
  rcases h4 with rfl | ⟨b, off, rfl, hb, hc⟩
  · exact ⟨[], rfl, rfl, h2, h3, .inl rfl⟩
  · have hx : ∀ i, i < len → ∃ x : UInt8, w.cell? ⟨b, off + i, none⟩ = some (.int .u8 (x.toNat : Int)) := fun i hi => by
      obtain ⟨cs', hr, hl, hc'⟩ := hc i hi
      obtain ⟨n, rfl, hw⟩ := hr.int he
      have := hc' 0 (by simp)
      rw [hs, Nat.mul_one] at this
      exact ⟨byteOf n, by rw [byteOf_toNat hw]; simpa using this⟩
    obtain ⟨f, hf⟩ := Deep.choose_lt hx
    exact ⟨(List.range len).map f, rfl, by simp, h2, h3, .inr ⟨b, off, rfl, hb, fun i hi => by simp at hi; simpa using hf i hi⟩⟩

/-- a slice of bools that came in -/
def Bools (w : World) (a : Option Addr) (len cap : Nat) (xs : List Bool) : Prop :=
  xs.length = len ∧ len ≤ cap ∧ cap ≤ maxLen ∧ (len = 0 ∨ ∃ b off, a = some ⟨b, off, none⟩ ∧ b < w.heap.size ∧ ∀ i (h : i < xs.length), w.cell? ⟨b, off + i, none⟩ = some (.bool xs[i]))
theorem Can.bools {w : World} {t e : TypeId} {cs : List Value} (h : Can P w t cs) (ht : P.underlying t = some (.slice e)) (he : P.underlying e = some .bool) (hs : P.cellsOf e = 1) :
    ∃ (a : Option Addr) (len cap : Nat) (xs : List Bool), cs = [.slice a len cap] ∧ Bools w a len cap xs := by
  obtain ⟨a, len, cap, rfl, h2, h3, h4⟩ := h.elems ht (by omega)
  refine ⟨a, len, cap, ?_⟩
  rcases h4 with rfl | ⟨b, off, rfl, hb, hc⟩
  · exact ⟨[], rfl, rfl, h2, h3, .inl rfl⟩
  · have hx : ∀ i, i < len → ∃ x : Bool, w.cell? ⟨b, off + i, none⟩ = some (.bool x) := fun i hi => by
      obtain ⟨cs', hr, hl, hc'⟩ := hc i hi
      obtain ⟨x, rfl⟩ := hr.bool he
      have := hc' 0 (by simp)
      rw [hs, Nat.mul_one] at this
      exact ⟨x, by simpa using this⟩
    obtain ⟨f, hf⟩ := Deep.choose_lt hx
    exact ⟨(List.range len).map f, rfl, by simp, h2, h3, .inr ⟨b, off, rfl, hb, fun i hi => by simp at hi; simpa using hf i hi⟩⟩

theorem Arg.int {w : World} {t : TypeId} {v : Value} {k : IntKind} (h : Arg P w t v) (ht : P.underlying t = some (.int k)) : ∃ n, v = .int k n ∧ (Lit.int k n).wf = true := by
  obtain ⟨⟨b, r, h1⟩, h2⟩ := h
  obtain ⟨n, rfl⟩ := WideShapes.okWide_int ht h1
  obtain ⟨m, h3, h4⟩ := h2.int ht
  simp [Value.cells] at h3
  subst h3
  exact ⟨n, rfl, h4⟩
theorem Arg.bool {w : World} {t : TypeId} {v : Value} (h : Arg P w t v) (ht : P.underlying t = some .bool) : ∃ b, v = .bool b := by
  obtain ⟨⟨b, r, h1⟩, _⟩ := h
  exact WideShapes.okWide_bool ht h1
theorem Arg.string {w : World} {t : TypeId} {v : Value} (h : Arg P w t v) (ht : P.underlying t = some .string) : ∃ s : ByteArray, v = .string s ∧ s.size ≤ maxLen := by
  obtain ⟨⟨b, r, h1⟩, h2⟩ := h
  obtain ⟨s, rfl⟩ := WideShapes.okWide_string ht h1
  obtain ⟨m, h3, h4⟩ := h2.string ht
  simp [Value.cells] at h3
  subst h3
  exact ⟨s, rfl, h4⟩
theorem Arg.sliceCan {w : World} {t e : TypeId} {v : Value} (h : Arg P w t v) (ht : P.underlying t = some (.slice e)) : ∃ a len cap, v = .slice a len cap ∧ Can P w t [.slice a len cap] := by
  obtain ⟨⟨b, r, h1⟩, h2⟩ := h
  obtain ⟨a, len, cap, rfl⟩ := WideShapes.okWide_slice ht h1
  exact ⟨a, len, cap, rfl, by simpa [Value.cells] using h2⟩
theorem Arg.bytes {w : World} {t e : TypeId} {v : Value} (h : Arg P w t v) (ht : P.underlying t = some (.slice e)) (he : P.underlying e = some (.int .u8)) (hs : P.cellsOf e = 1) :
    ∃ (a : Option Addr) (len cap : Nat) (xs : List UInt8), v = .slice a len cap ∧ Bs w a len cap xs := by
  obtain ⟨a, len, cap, rfl, h2⟩ := h.sliceCan ht
  obtain ⟨a', len', cap', xs, h3, h4⟩ := h2.bytes ht he hs
  cases h3
  exact ⟨a, len, cap, xs, rfl, h4⟩
theorem Arg.bools {w : World} {t e : TypeId} {v : Value} (h : Arg P w t v) (ht : P.underlying t = some (.slice e)) (he : P.underlying e = some .bool) (hs : P.cellsOf e = 1) :
    ∃ (a : Option Addr) (len cap : Nat) (xs : List Bool), v = .slice a len cap ∧ Bools w a len cap xs := by
  obtain ⟨a, len, cap, rfl, h2⟩ := h.sliceCan ht
  obtain ⟨a', len', cap', xs, h3, h4⟩ := h2.bools ht he hs
  cases h3
  exact ⟨a, len, cap, xs, rfl, h4⟩
theorem Arg.struct {w : World} {t : TypeId} {v : Value} {fs : Array Field} (h : Arg P w t v) (ht : P.underlying t = some (.struct fs)) :
    ∃ cs : Array Value, v = .agg cs ∧ cs.size = P.cellsOf t ∧ ∀ (i : Nat) (f : Field), fs[i]? = some f → Can P w f.type ((cs.toList.drop f.offset).take (P.cellsOf f.type)) := by
  obtain ⟨⟨b, r, h1⟩, h2⟩ := h
  obtain ⟨cs, rfl, h3⟩ := WideShapes.okWide_struct ht h1
  exact ⟨cs, rfl, h3, (h2.struct ht).2⟩

end
end Go.Proofs.Ytklckjmlifddjaa
