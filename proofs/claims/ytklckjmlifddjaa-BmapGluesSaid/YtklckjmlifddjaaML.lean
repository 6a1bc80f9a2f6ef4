/- Slices of slices of bytes: how they read; those of our own, and how they are appended to. -/
import Derived.Test.YtklckjmlifddjaaMem
import Derived.Test.YtklckjmlifddjaaArg
import Derived.Maps.AppendAt
import Derived.Laws.OwnMore
namespace Go.Proofs.Ytklckjmlifddjaa
open Go.RowKit

abbrev TBS : TypeId := 22
abbrev TLL : TypeId := 24
/-- a slice of slices of bytes that reads as these rows -/
def LL (w : World) (a : Option Addr) (len cap : Nat) (ls : List (List UInt8)) : Prop :=
  ls.length = len ∧ len ≤ cap ∧ cap ≤ maxLen ∧ (len = 0 ∨ ∃ b off, a = some ⟨b, off, none⟩ ∧ b < w.heap.size ∧ ∀ i (h : i < ls.length), ∃ a' m c, w.cell? ⟨b, off + i, none⟩ = some (.slice a' m c) ∧ Bs w a' m c ls[i])
theorem LL.nil (w : World) : LL w none 0 0 [] := ⟨rfl, Nat.le_refl _, by simp [maxLen], .inl rfl⟩
theorem LL.below {w w' : World} {a : Option Addr} {len cap : Nat} {ls : List (List UInt8)} (h : LL w a len cap ls) (hb : Below w.heap.size w w') : LL w' a len cap ls := by
  obtain ⟨h1, h2, h3, h4⟩ := h
  refine ⟨h1, h2, h3, ?_⟩
  rcases h4 with h4 | ⟨b, off, h4, h5, h6⟩
  · exact .inl h4
  · refine .inr ⟨b, off, h4, Nat.lt_of_lt_of_le h5 hb.size, fun i hi => ?_⟩
    obtain ⟨a', m, c, h7, h8⟩ := h6 i hi
    exact ⟨a', m, c, by rw [hb.cell (p := ⟨b, off + i, none⟩) h5]; exact h7, h8.below hb⟩
theorem LL.take {w : World} {a : Option Addr} {len cap : Nat} {ls : List (List UInt8)} (h : LL w a len cap ls) {k : Nat} (hk : k ≤ len) : LL w a k cap (ls.take k) := by
  obtain ⟨h1, h2, h3, h4⟩ := h
  refine ⟨by simp; omega, by omega, h3, ?_⟩
  rcases h4 with h4 | ⟨b, off, h4, h5, h6⟩
  · exact .inl (by omega)
  · exact .inr ⟨b, off, h4, h5, fun i hi => by simp at hi; obtain ⟨a', m, c, h7, h8⟩ := h6 i (by omega); exact ⟨a', m, c, h7, by simpa using h8⟩⟩
theorem LL.drop {w : World} {a : Option Addr} {len cap : Nat} {ls : List (List UInt8)} (h : LL w a len cap ls) {k : Nat} (hk : k ≤ len) : LL w (if cap = k then a else a.map (·.add k)) (len - k) (cap - k) (ls.drop k) := by
  obtain ⟨h1, h2, h3, h4⟩ := h
  refine ⟨by simp; omega, by omega, by omega, ?_⟩
  rcases h4 with h4 | ⟨b, off, h4, h5, h6⟩
  · exact .inl (by omega)
  · by_cases hc : cap = k
    · exact .inl (by omega)
    · rw [if_neg hc, h4]
      refine .inr ⟨b, off + k, ?_, h5, fun i hi => by simp at hi; obtain ⟨a', m, c, h7, h8⟩ := h6 (k + i) (by omega); exact ⟨a', m, c, by rw [Nat.add_assoc]; exact h7, by simpa using h8⟩⟩
      by_cases hk0 : k = 0 <;> simp [Addr.add, hk0]
/-- where it lies, and one of its rows -/
theorem LL.at {w : World} {a : Option Addr} {len cap : Nat} {ls : List (List UInt8)} (h : LL w a len cap ls) (h0 : 0 < len) : ∃ b off, a = some ⟨b, off, none⟩ ∧ b < w.heap.size ∧ ∀ i, i < len → ∃ a' m c, w.cell? ⟨b, off + i, none⟩ = some (.slice a' m c) ∧ Bs w a' m c (ls.getD i []) := by
  obtain ⟨h1, _, _, h4⟩ := h
  rcases h4 with h4 | ⟨b, off, h4, h5, h6⟩
  · omega
  · refine ⟨b, off, h4, h5, fun i hi => ?_⟩
    obtain ⟨a', m, c, h7, h8⟩ := h6 i (by omega)
    exact ⟨a', m, c, h7, by rw [List.getD_eq_getElem?_getD, List.getElem?_eq_getElem (by omega)]; exact h8⟩
/-- an argument that is such a slice -/
theorem Arg.lists {w : World} {v : Value} (h : Arg Try.prog w 24 v) : ∃ (a : Option Addr) (len cap : Nat) (ls : List (List UInt8)), v = .slice a len cap ∧ LL w a len cap ls := by
  obtain ⟨a, len, cap, rfl, h2⟩ := h.sliceCan Try.underlying24
  have hs : Try.prog.cellsOf 22 = 1 := by kernel_rfl
  obtain ⟨a', len', cap', h3, h5, h6, h4⟩ := h2.elems Try.underlying24 (by omega)
  cases h3
  refine ⟨a, len, cap, ?_⟩
  rcases h4 with rfl | ⟨b, off, rfl, hb, hc⟩
  · exact ⟨[], rfl, rfl, h5, h6, .inl rfl⟩
  · have hx : ∀ i, i < len → ∃ x : List UInt8, ∃ a' m c, w.cell? ⟨b, off + i, none⟩ = some (.slice a' m c) ∧ Bs w a' m c x := fun i hi => by
      obtain ⟨cs', hr, hl, hc'⟩ := hc i hi
      obtain ⟨a', m, c, xs, rfl, hB⟩ := hr.bytes Try.underlying22 Try.underlying5 (by kernel_rfl)
      have := hc' 0 (by simp)
      rw [hs, Nat.mul_one] at this
      exact ⟨xs, a', m, c, by simpa using this, hB⟩
    obtain ⟨f, hf⟩ := Deep.choose_lt hx
    exact ⟨(List.range len).map f, rfl, by simp, h5, h6, .inr ⟨b, off, rfl, hb, fun i hi => by simp at hi; simpa using hf i hi⟩⟩

/-- cells that read as these rows, none of which lies in block o -/
def Rws (w : World) (o : Option Nat) (vs : List Value) (ls : List (List UInt8)) : Prop :=
  vs.length = ls.length ∧ ∀ i (h : i < ls.length), ∃ a m c, vs[i]? = some (.slice a m c) ∧ Bs w a m c ls[i] ∧ (0 < m → ∀ ad, a = some ad → o ≠ some ad.block)
/-- a slice of slices of bytes of our own -/
def OwnL (w : World) (B : Nat) (v : Value) (ls : List (List UInt8)) : Prop := ∃ vs : List Value, w.ownsRow B TBS 1 v ls.length vs ∧ Rws w v.ownBlock vs ls
theorem OwnL.nil (w : World) (B : Nat) : OwnL w B (.slice none 0 0) [] := ⟨[], World.ownsRow_nil w B TBS 1, rfl, fun i h => by simp at h⟩
theorem Bs.blk' {w : World} {a : Option Addr} {len cap : Nat} {xs : List UInt8} (h : Bs w a len cap xs) (h0 : 0 < len) (ad : Addr) (ha : a = some ad) : ad.block < w.heap.size := by
  rcases h.2.2.2 with h1 | ⟨b, o, e, h5, _⟩
  · omega
  · rw [e] at ha; injection ha with ha; rw [← ha]; exact h5
theorem Bs.grown {w w' : World} {row : Option Nat} {a : Option Addr} {len cap : Nat} {xs : List UInt8} (h : Bs w a len cap xs) (hg : w.grownBy w' row) (hn : 0 < len → ∀ ad, a = some ad → row ≠ some ad.block) : Bs w' a len cap xs := by
  obtain ⟨h1, h2, h3, h4⟩ := h
  refine ⟨h1, h2, h3, ?_⟩
  rcases h4 with h4 | ⟨b, off, rfl, h5, h6⟩
  · exact .inl h4
  · by_cases h0 : len = 0
    · exact .inl h0
    · refine .inr ⟨b, off, rfl, Nat.lt_of_lt_of_le h5 hg.size, fun i hi => ?_⟩
      rw [← h6 i hi]
      exact World.cell?_of_block (a := ⟨b, off + i, none⟩) (hg.block b h5 (fun e => hn (by omega) _ rfl e.symm))
theorem OwnL.below {w w' : World} {B : Nat} {v : Value} {ls : List (List UInt8)} (h : OwnL w B v ls) (hb : Below w.heap.size w w') : OwnL w' B v ls := by
  obtain ⟨vs, h1, h2, h3⟩ := h
  refine ⟨vs, ⟨h1.1, ?_⟩, h2, fun i hi => ?_⟩
  · rcases h1.2 with h4 | ⟨g, cap, cur, h5, h6, h7, h8⟩
    · exact .inl h4
    · exact .inr ⟨g, cap, cur, h5, h6, (hb.block g (Array.getElem?_eq_some_iff.1 h7).1).trans h7, h8⟩
  · obtain ⟨a, m, c, h4, h5, h6⟩ := h3 i hi
    exact ⟨a, m, c, h4, h5.below hb, h6⟩
theorem OwnL.weaken {w : World} {B B' : Nat} {v : Value} {ls : List (List UInt8)} (h : OwnL w B' v ls) (hB : B ≤ B') : OwnL w B v ls := by
  obtain ⟨vs, h1, h2⟩ := h
  refine ⟨vs, ⟨h1.1, ?_⟩, h2⟩
  rcases h1.2 with h4 | ⟨g, cap, cur, h5, h6, h7⟩
  · exact .inl h4
  · exact .inr ⟨g, cap, cur, h5, Nat.le_trans hB h6, h7⟩
theorem OwnL.lt {w : World} {B : Nat} {v : Value} {ls : List (List UInt8)} (h : OwnL w B v ls) : ∀ k, v.ownBlock = some k → B ≤ k ∧ k < w.heap.size := by
  obtain ⟨vs, h1, _⟩ := h
  exact World.ownsRow.lt h1
/-- as a slice that is read -/
theorem OwnL.ll {w : World} {B n : Nat} {v : Value} {ls : List (List UInt8)} (h : OwnL w B v ls) (hn : ls.length = n) : ∃ a cap, v = .slice a n cap ∧ LL w a n cap ls := by
  subst hn
  obtain ⟨vs, h1, h2, h3⟩ := h
  rcases h1.2 with ⟨rfl, h4⟩ | ⟨g, cap, cur, rfl, h6, h7, h8, h9, h10, h11⟩
  · obtain rfl := List.length_eq_zero_iff.1 h4
    exact ⟨none, 0, rfl, LL.nil w⟩
  · refine ⟨some ⟨g, 0, none⟩, cap, rfl, rfl, h8, h9, .inr ⟨g, 0, rfl, (Array.getElem?_eq_some_iff.1 h7).1, fun i hi => ?_⟩⟩
    obtain ⟨a, m, c, h4, h5, _⟩ := h3 i hi
    refine ⟨a, m, c, ?_, h5⟩
    rw [Nat.zero_add, ← h4]
    exact World.ownsRow.cellAt (size := 1) h1 i (by omega)
/-- a literal of one row -/
theorem OwnL.one (w : World) {a : Option Addr} {m c : Nat} {xs : List UInt8} (h : Bs w a m c xs) : OwnL (w.alloc (.cells #[.slice a m c] TBS)) w.heap.size (.slice (some ⟨w.heap.size, 0, none⟩) 1 1) [xs] := by
  refine ⟨[.slice a m c], ?_, rfl, fun i hi => ?_⟩
  · exact World.ownsRow_lit w #[.slice a m c] 1 (Nat.le_refl _) (by simp [maxLen]) rfl
  · match i, hi with
    | 0, _ =>
      refine ⟨a, m, c, rfl, h.alloc _, fun h0 ad had e => ?_⟩
      have := h.blk' h0 ad had
      simp [Value.ownBlock] at e
      omega
theorem LL.one (w : World) {a : Option Addr} {m c : Nat} {xs : List UInt8} (h : Bs w a m c xs) : LL (w.alloc (.cells #[.slice a m c] TBS)) (some ⟨w.heap.size, 0, none⟩) 1 1 [xs] := by
  obtain ⟨a', c', e, h1⟩ := (OwnL.one w h).ll (n := 1) rfl
  injection e with e1 e2 e3
  subst e1 e3
  exact h1
theorem OwnL.none (w : World) : OwnL (w.alloc (.cells #[] TBS)) w.heap.size (.slice (some ⟨w.heap.size, 0, none⟩) 0 0) [] :=
  ⟨[], World.ownsRow_made w #[] 0 (Nat.le_refl _) (by simp [maxLen]) rfl, rfl, fun i h => by simp at h⟩

theorem infoTS : (Try.prog.info? TBS).map (fun i => (i.zero, i.size, i.bytes)) = some (some (.slice none 0 0), 1, 24) := by kernel_rfl
theorem info_parts' {i? : Option TypeInfo} {z : Value} {s b : Nat} (h : i?.map (fun i => (i.zero, i.size, i.bytes)) = some (some z, s, b)) : ∃ i, i? = some i ∧ i.zero = some z ∧ i.size = s ∧ i.bytes = b := by
  cases i? with
  | none => cases h
  | some i => simp at h; exact ⟨i, rfl, h.1, h.2.1, h.2.2⟩
/-- an append of rows, none of which lies in the block that is appended to -/
theorem run_append_ll {w : World} (B : Nat) (v : Value) (ls : List (List UInt8)) (h : OwnL w B v ls) (ad : Option Addr) (m c : Nat) (ys : List (List UInt8)) (hB : LL w ad m c ys)
    (hap : ∀ b off, ad = some ⟨b, off, none⟩ → ∀ i, i < m → ∀ a' m' c', w.cell? ⟨b, off + i, none⟩ = some (.slice a' m' c') → 0 < m' → ∀ x, a' = some x → v.ownBlock ≠ some x.block) (ty : TypeId) (hlen : ls.length + m ≤ 1000000) (hbase : B ≤ w.heap.size) :
    ∃ v' w', (Builtin.append_ #[24, 24] ty #[v, .slice ad m c]).run Try.prog w = .ok v' w' ∧ OwnL w' B v' (ls ++ ys) ∧ w.grownBy w' v.ownBlock ∧ (v'.ownBlock = v.ownBlock ∨ v'.ownBlock = some w.heap.size) := by
  obtain ⟨i, hi, hz0, hz1, hz2⟩ := info_parts' infoTS
  obtain ⟨vs, h1, h2, h3⟩ := h
  by_cases hm : m = 0
  · subst hm
    obtain rfl := List.length_eq_zero_iff.1 hB.1
    refine ⟨v, w, ?_, by rw [List.append_nil]; exact ⟨vs, h1, h2, h3⟩, ⟨rfl, rfl, rfl, Nat.le_refl _, fun _ _ _ => rfl⟩, .inl rfl⟩
    cases ad with
    | none => exact run_append_none0 (P := Try.prog) (w := w) B TLL ty TBS i 1 Try.underlying24 hi v _ c _ h1
    | some ad =>
      rcases h1.2 with ⟨rfl, h4⟩ | ⟨g, cap, cur, rfl, h6, h7, h8, _⟩
      · simp [Builtin.append_, run_underlying Try.underlying24, sizeOf, typeInfo, hi, Builtin.lenOf, Builtin.firstCells, loadCells, loadCellsFrom]
      · simp [Builtin.append_, run_underlying Try.underlying24, sizeOf, typeInfo, hi, Builtin.lenOf, Builtin.firstCells, storeCells, h8, loadCells, loadCellsFrom]
  · obtain ⟨b, off, rfl, hbw, hc⟩ := hB.at (by omega)
    have hx : ∀ j, j < m → ∃ u : Value, w.cell? ⟨b, off + j, none⟩ = some u ∧ u.oneCell' = true ∧ ∃ a' m' c', u = .slice a' m' c' ∧ Bs w a' m' c' (ys.getD j []) := fun j hj => by
      obtain ⟨a', m', c', h7, h8⟩ := hc j hj
      exact ⟨_, h7, rfl, a', m', c', rfl, h8⟩
    obtain ⟨f, hf⟩ := Deep.choose_lt hx
    obtain ⟨v', w', r, k1, k2, _, k4⟩ := run_append_own_at (P := Try.prog) w B TLL ty TBS i (.slice none 0 0) 1 24 Try.underlying24 hi hz0 hz1 hz2 rfl (by decide) v ls.length vs h1 ⟨b, off, none⟩ m c ((List.range m).map f) (by simp) (fun j u hu => by
      obtain ⟨hj, rfl⟩ := List.getElem?_eq_some_iff.1 hu
      simp at hj
      have he : (⟨b, off, none⟩ : Addr).add j = ⟨b, off + j, none⟩ := by by_cases hi0 : j = 0 <;> simp [Addr.add, hi0]
      rw [he]
      simpa using (hf j hj).1) (fun u hu => by
      obtain ⟨j, hj, rfl⟩ := List.mem_map.1 hu
      exact (hf j (by simpa using hj)).2.1) (by unfold maxLen; omega) (by omega) hbase
    refine ⟨v', w', r, ⟨_, by rw [List.length_append, hB.1]; exact k1, by simp [h2, hB.1], fun j hj => ?_⟩, k2, k4⟩
    have hnew : ∀ (a : Option Addr) (m' c' : Nat) (zs : List UInt8), Bs w a m' c' zs → (0 < m' → ∀ x, a = some x → v.ownBlock ≠ some x.block) → Bs w' a m' c' zs ∧ (0 < m' → ∀ x, a = some x → v'.ownBlock ≠ some x.block) := fun a m' c' zs hz hn =>
      ⟨hz.grown k2 hn, fun h0 x hx => by
        rcases k4 with k4 | k4
        · rw [k4]; exact hn h0 x hx
        · rw [k4]; intro e; injection e with e; have := hz.blk' h0 x hx; omega⟩
    by_cases hjl : j < ls.length
    · obtain ⟨a, m', c', h4, h5, h6⟩ := h3 j hjl
      obtain ⟨q1, q2⟩ := hnew _ _ _ _ h5 h6
      exact ⟨a, m', c', by rw [List.getElem?_append_left (by omega)]; exact h4, by rw [List.getElem_append_left hjl]; exact q1, q2⟩
    · rw [List.length_append] at hj
      have hjm : j - ls.length < m := by have := hB.1; omega
      obtain ⟨p1, _, a', m', c', p3, p4⟩ := hf (j - ls.length) hjm
      rw [p3] at p1
      obtain ⟨q1, q2⟩ := hnew _ _ _ _ p4 (hap b off rfl (j - ls.length) hjm a' m' c' p1)
      refine ⟨a', m', c', ?_, ?_, q2⟩
      · rw [List.getElem?_append_right (by omega), h2, List.getElem?_map, List.getElem?_range hjm, ← p3]; rfl
      · rw [List.getElem_append_right (by omega)]
        rw [List.getD_eq_getElem?_getD, List.getElem?_eq_getElem (by omega)] at q1
        exact q1
/-- an append of one row that has just been put into a literal -/
theorem run_append_row {w : World} (B : Nat) (v : Value) (ls : List (List UInt8)) (h : OwnL w B v ls) (a : Option Addr) (m c : Nat) (ys : List UInt8) (hy : Bs w a m c ys) (hap : 0 < m → ∀ x, a = some x → v.ownBlock ≠ some x.block) (ty : TypeId) (hlen : ls.length + 1 ≤ 1000000) (hbase : B ≤ w.heap.size) :
    ∃ v' w', (Builtin.append_ #[24, 24] ty #[v, .slice (some ⟨w.heap.size, 0, none⟩) 1 1]).run Try.prog (w.alloc (.cells #[.slice a m c] TBS)) = .ok v' w' ∧ OwnL w' B v' (ls ++ [ys]) ∧ (w.alloc (.cells #[.slice a m c] TBS)).grownBy w' v.ownBlock := by
  obtain ⟨v', w', h1, h2, h3, _⟩ := run_append_ll B v ls (h.below ((Below.refl _ _).alloc (Nat.le_refl _) (.cells #[.slice a m c] TBS))) _ 1 1 [ys] (LL.one w hy) (fun b off e i hi a' m' c' hc h0 x hx => by
    injection e with e; injection e with e1 e2
    obtain rfl : i = 0 := by omega
    subst e1 e2
    rw [World.cell?_alloc_mark] at hc
    injection hc with hc; injection hc with d1 d2 d3
    subst d1 d2
    exact hap h0 x hx) ty hlen (by simp; omega)
  exact ⟨v', w', h1, h2, h3⟩
/-- the walk's form -/
theorem wpList_append_row {w : World} {ops : Array Oper} {rest : List Oper} {o : Oper} {a : Act} {Q : Exit → Act → World → Prop} (hgd : o.guard = none) (s x : Operand)
    (ho : o.op = .call { callee := .builtin .append, args := #[s, x], argTypes := #[24, 24] }) (hx : a.eval x = .slice (some ⟨w.heap.size, 0, none⟩) 1 1)
    (B : Nat) (v : Value) (ls : List (List UInt8)) (hs : a.eval s = v) (h : OwnL w B v ls) (a' : Option Addr) (m c : Nat) (ys : List UInt8) (hy : Bs w a' m c ys) (hap : 0 < m → ∀ x, a' = some x → v.ownBlock ≠ some x.block)
    (hlen : ls.length + 1 ≤ 1000000) (hbase : B ≤ w.heap.size)
    (hh : ∀ v' w', OwnL w' B v' (ls ++ [ys]) → (w.alloc (.cells #[.slice a' m c] TBS)).grownBy w' v.ownBlock → wpList Try.prog ops Q rest (a.put o.dst v') w') : wpList Try.prog ops Q (o :: rest) a (w.alloc (.cells #[.slice a' m c] TBS)) := by
  refine wpList_plain hgd fun _ hK => ?_
  obtain ⟨v', w', hr, h2, h3⟩ := run_append_row B v ls h a' m c ys hy hap o.type hlen hbase
  unfold Oper.wp execOp
  simp only [ho, resolve, invoke, builtin, Sem.run_bind, Sem.run_pure, Result.andThen_ok, List.map_toArray, List.map_cons, List.map_nil, hs, hx, hr]
  exact hK _ _ (hh v' w' h2 h3)
/-- the form at a step of a region that draws its order -/
theorem step_append_row {w : World} {ops : Array Oper} {o : Oper} {a : Act} {K : Act → World → Prop} {Q : Exit → Act → World → Prop} {E : Prop} (hgd : Region.wanted o (yielded ops a.tmps) = true) (s x : Operand)
    (ho : o.op = .call { callee := .builtin .append, args := #[s, x], argTypes := #[24, 24] }) (hx : a.eval x = .slice (some ⟨w.heap.size, 0, none⟩) 1 1)
    (B : Nat) (v : Value) (ls : List (List UInt8)) (hs : a.eval s = v) (h : OwnL w B v ls) (a' : Option Addr) (m c : Nat) (ys : List UInt8) (hy : Bs w a' m c ys) (hap : 0 < m → ∀ x, a' = some x → v.ownBlock ≠ some x.block)
    (hlen : ls.length + 1 ≤ 1000000) (hbase : B ≤ w.heap.size)
    (hh : ∀ v' w', OwnL w' B v' (ls ++ [ys]) → (w.alloc (.cells #[.slice a' m c] TBS)).grownBy w' v.ownBlock → K (a.put o.dst v') w') :
    if Region.wanted o (yielded ops a.tmps) = true then Oper.wp Try.prog o a (w.alloc (.cells #[.slice a' m c] TBS)) K Q else E := by
  rw [if_pos hgd]
  obtain ⟨v', w', hr, h2, h3⟩ := run_append_row B v ls h a' m c ys hy hap o.type hlen hbase
  unfold Oper.wp execOp
  simp only [ho, resolve, invoke, builtin, Sem.run_bind, Sem.run_pure, Result.andThen_ok, List.map_toArray, List.map_cons, List.map_nil, hs, hx, hr]
  exact hh v' w' h2 h3
end Go.Proofs.Ytklckjmlifddjaa
