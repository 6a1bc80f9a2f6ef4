/- Rows of bytes that the call itself has made: what they hold, how they are written and appended to. -/
import Derived.Test.YtklckjmlifddjaaProg
import Derived.Test.YtklckjmlifddjaaBase
import Derived.Laws.AppendOwnNone
namespace Go.Proofs.Ytklckjmlifddjaa
open Go.RowKit

/-- the number of the type of bytes in this translation -/
abbrev TB : TypeId := 5
/-- block g is a row of cap bytes of our own, whose first are xs -/
def Row (w : World) (g cap : Nat) (xs : List UInt8) : Prop :=
  ∃ cur, w.heap[g]? = some (.cells cur TB (0, 0)) ∧ cur.size = cap ∧ xs.length ≤ cap ∧ cap ≤ maxLen ∧ cur.toList.take xs.length = xs.map bv

theorem Row.lt {w : World} {g cap : Nat} {xs : List UInt8} (h : Row w g cap xs) : g < w.heap.size := by
  obtain ⟨cur, h1, _⟩ := h
  exact (Array.getElem?_eq_some_iff.1 h1).1
theorem Row.len {w : World} {g cap : Nat} {xs : List UInt8} (h : Row w g cap xs) : xs.length ≤ cap := by obtain ⟨cur, _, _, h3, _⟩ := h; exact h3
theorem Row.cap_le {w : World} {g cap : Nat} {xs : List UInt8} (h : Row w g cap xs) : cap ≤ maxLen := by obtain ⟨cur, _, _, _, h4, _⟩ := h; exact h4
theorem Row.cell {w : World} {g cap : Nat} {xs : List UInt8} (h : Row w g cap xs) (i : Nat) (hi : i < xs.length) : w.cell? ⟨g, i, none⟩ = some (.int .u8 (xs[i].toNat : Int)) := by
  obtain ⟨cur, h1, h2, h3, h4, h5⟩ := h
  have h6 := congrArg (·[i]?) h5
  simp only [List.getElem?_take, List.getElem?_map] at h6
  rw [if_pos hi] at h6
  simp only [World.cell?, h1]
  rw [← Array.getElem?_toList]
  simp [h6, bv, hi]
theorem Row.frozen {w : World} {g cap : Nat} {xs : List UInt8} (h : Row w g cap xs) (i : Nat) : w.frozen? ⟨g, i, none⟩ = false := by
  obtain ⟨cur, h1, _⟩ := h
  simp [World.frozen?, h1]
theorem Row.of_heap {w w' : World} {g cap : Nat} {xs : List UInt8} (h : Row w g cap xs) (he : w'.heap[g]? = w.heap[g]?) : Row w' g cap xs := by
  obtain ⟨cur, h1, h2⟩ := h
  exact ⟨cur, he.trans h1, h2⟩
theorem Row.below {w w' : World} {g cap : Nat} {xs : List UInt8} (h : Row w g cap xs) (hb : Below w.heap.size w w') : Row w' g cap xs := h.of_heap (hb.block g h.lt)
theorem Row.alloc {w : World} {g cap : Nat} {xs : List UInt8} (h : Row w g cap xs) (o : Obj) : Row (w.alloc o) g cap xs := h.of_heap (Below.heap_alloc _ _ _ h.lt)
theorem Row.drew {w : World} {g cap : Nat} {xs : List UInt8} (h : Row w g cap xs) : Row w.drew g cap xs := h.of_heap rfl
theorem Row.setOther {w : World} {g cap : Nat} {xs : List UInt8} (h : Row w g cap xs) {a : Addr} (ha : g ≠ a.block) (u : Value) : Row (w.setCell a u) g cap xs := h.of_heap (Below.heap_setCell _ _ _ _ ha)
theorem Row.grown {w w' : World} {g cap : Nat} {xs : List UInt8} {row : Option Nat} (h : Row w g cap xs) (hg : w.grownBy w' row) (hne : some g ≠ row) : Row w' g cap xs := h.of_heap (hg.block g h.lt hne)
/-- a store into it -/
theorem Row.set {w : World} {g cap : Nat} {xs : List UInt8} (h : Row w g cap xs) (i : Nat) (y : UInt8) : Row (w.setCell ⟨g, i, none⟩ (.int .u8 (y.toNat : Int))) g cap (xs.set i y) := by
  have hlt := h.lt
  obtain ⟨cur, h1, h2, h3, h4, h5⟩ := h
  refine ⟨cur.setIfInBounds i (bv y), ?_, by simpa using h2, by simpa using h3, h4, ?_⟩
  · simp only [World.setCell, Array.getElem?_modify, if_pos]
    rw [h1]
    simp [bv]
  · rw [List.length_set, List.map_set, ← h5]
    rw [Array.toList_setIfInBounds, List.take_set]
/-- as a slice that is read -/
theorem Row.bs {w : World} {g cap : Nat} {xs : List UInt8} (h : Row w g cap xs) : Bs w (some ⟨g, 0, none⟩) xs.length cap xs :=
  ⟨rfl, h.len, h.cap_le, .inr ⟨g, 0, rfl, h.lt, fun i hi => by rw [Nat.zero_add]; exact h.cell i hi⟩⟩
theorem Row.made (w : World) (C : Array Value) (n cap : Nat) (xs : List UInt8) (hc : C.size = cap) (hn : xs.length = n) (h : n ≤ cap) (hcap : cap ≤ maxLen) (hC : C.toList.take n = xs.map bv) : Row (w.alloc (.cells C TB)) w.heap.size cap xs :=
  ⟨C, heap_alloc_new w _, hc, by omega, hcap, by rw [hn]; exact hC⟩

/-- a slice of bytes of our own (nil, or at the head of a row from block B on) -/
def Own (w : World) (B : Nat) (v : Value) (xs : List UInt8) : Prop := w.ownsRow B TB 1 v xs.length (xs.map bv)
theorem Own.nil (w : World) (B : Nat) : Own w B (.slice none 0 0) [] := World.ownsRow_nil w B TB 1
theorem Own.parts {w : World} {B : Nat} {v : Value} {xs : List UInt8} (h : Own w B v xs) :
    (v = .slice none 0 0 ∧ xs = []) ∨ ∃ g cap, v = .slice (some ⟨g, 0, none⟩) xs.length cap ∧ B ≤ g ∧ Row w g cap xs := by
  obtain ⟨_, h2⟩ := h
  rcases h2 with ⟨h2, h3⟩ | ⟨g, cap, cur, h2, h3, h4, h5, h6, h7, h8⟩
  · exact .inl ⟨h2, List.length_eq_zero_iff.1 h3⟩
  · exact .inr ⟨g, cap, h2, h3, cur, h4, by omega, h5, h6, by simpa using h8⟩
theorem Own.of_row {w : World} {B g cap : Nat} {xs : List UInt8} (h : Row w g cap xs) (hB : B ≤ g) : Own w B (.slice (some ⟨g, 0, none⟩) xs.length cap) xs := by
  obtain ⟨cur, h1, h2, h3, h4, h5⟩ := h
  exact ⟨by simp, .inr ⟨g, cap, cur, rfl, hB, h1, h3, h4, by omega, by simpa using h5⟩⟩
theorem Own.bs {w : World} {B : Nat} {v : Value} {xs : List UInt8} (h : Own w B v xs) : ∃ a cap, v = .slice a xs.length cap ∧ Bs w a xs.length cap xs := by
  rcases h.parts with ⟨rfl, rfl⟩ | ⟨g, cap, rfl, _, hr⟩
  · exact ⟨none, 0, rfl, Bs.nil w⟩
  · exact ⟨_, cap, rfl, hr.bs⟩
theorem Own.below {w w' : World} {B : Nat} {v : Value} {xs : List UInt8} (h : Own w B v xs) (hb : Below w.heap.size w w') : Own w' B v xs := by
  rcases h.parts with ⟨rfl, rfl⟩ | ⟨g, cap, rfl, hB, hr⟩
  · exact Own.nil _ _
  · exact Own.of_row (hr.below hb) hB
theorem Own.alloc {w : World} {B : Nat} {v : Value} {xs : List UInt8} (h : Own w B v xs) (o : Obj) : Own (w.alloc o) B v xs := h.below ((Below.refl _ _).alloc (Nat.le_refl _) o)

theorem Ext.grown {B : Nat} {a w w' : World} {row : Option Nat} (h : Ext B a w) (hg : w.grownBy w' row) (hr : ∀ k, row = some k → B ≤ k) : Ext B a w' := ⟨h.1.grown hg h.2 hr, Nat.le_trans h.2 hg.size⟩

/-- the bytes of a slice, as an append reads them -/
theorem Bs.news {w : World} {a : Option Addr} {len cap : Nat} {ys : List UInt8} (h : Bs w a len cap ys) :
    (a = none ∧ len = 0 ∧ ys = []) ∨ ∃ ad, a = some ad ∧ ∀ j u, (ys.map bv)[j]? = some u → w.cell? (ad.add j) = some u := by
  obtain ⟨h1, h2, h3, h4⟩ := h
  rcases h4 with rfl | ⟨b, off, rfl, h5, h6⟩
  · obtain rfl := List.length_eq_zero_iff.1 h1
    cases a with
    | none => exact .inl ⟨rfl, rfl, rfl⟩
    | some ad => exact .inr ⟨ad, rfl, fun j u hu => by simp at hu⟩
  · refine .inr ⟨_, rfl, fun j u hu => ?_⟩
    have hj : j < ys.length := by
      rcases Nat.lt_or_ge j ys.length with h | h
      · exact h
      · rw [List.getElem?_eq_none (by simpa using h)] at hu; cases hu
    have he : (⟨b, off, none⟩ : Addr).add j = ⟨b, off + j, none⟩ := by by_cases hi0 : j = 0 <;> simp [Addr.add, hi0]
    rw [he, h6 j hj, ← hu]
    simp [bv, hj]

theorem infoTB : (Try.prog.info? TB).map (fun i => (i.zero, i.size, i.bytes)) = some (some (.int .u8 0), 1, 1) := by kernel_rfl

theorem run_make_bytes (n : Nat) (hn : n ≤ 281474976710656) (W : World) : (Instr.makeSlice 22 (.int .i64 (n : Int)) (.int .i64 (n : Int))).run Try.prog W = .ok (.slice (some ⟨W.heap.size, 0, none⟩) n n) (W.alloc (.cells (madeCells #[.int .u8 0] n) TB)) := by
  obtain ⟨i, hi, hz0, hz1, hz2⟩ := info_parts infoTB
  have := run_make (P := Try.prog) W 22 TB i (.int .u8 0) Try.underlying22 hi hz0 .i64 .i64 n n (by omega) (by omega) (by rw [hz2]; omega) (by omega)
  simpa [hz1, Value.cells] using this
theorem Row.zero (w : World) (n : Nat) (hn : n ≤ maxLen) : Row (w.alloc (.cells (madeCells #[.int .u8 0] n) TB)) w.heap.size n (List.replicate n 0) := by
  refine Row.made w _ n n _ (by simp [madeCells]) (by simp) (Nat.le_refl _) hn ?_
  rw [toList_madeCells_one, List.take_of_length_le (by simp)]
  simp [bv]
/-- the first k, and noughts -/
def part (L : List UInt8) (k : Nat) : List UInt8 := L.take k ++ List.replicate (L.length - k) 0
theorem part_zero (L : List UInt8) : part L 0 = List.replicate L.length 0 := by simp [part]
theorem part_length (L : List UInt8) (k : Nat) (h : k ≤ L.length) : (part L k).length = L.length := by simp [part]; omega
theorem part_full (L : List UInt8) (k : Nat) (h : k = L.length) : part L k = L := by subst h; simp [part]
theorem part_succ (L : List UInt8) (k : Nat) (h : k < L.length) : (part L k).set k L[k] = part L (k + 1) := by
  refine List.ext_getElem (by simp [part]; omega) fun i h1 h2 => ?_
  simp only [part, List.getElem_set, List.getElem_append, List.getElem_take, List.length_take, List.getElem_replicate]
  by_cases hi : k = i
  · subst hi; rw [if_pos rfl, dif_pos (by omega)]
  · rw [if_neg hi]
    by_cases hk : i < k
    · rw [dif_pos (by omega), dif_pos (by omega)]
    · rw [dif_neg (by omega), dif_neg (by omega)]

theorem run_append_none0 {P : Program} {w : World} (base : Nat) (t ty e : TypeId) (i : TypeInfo) (size : Nat) (ht : P.underlying t = some (.slice e)) (hi : P.info? e = some i)
    (v : Value) (n cap : Nat) (xs : List Value) (hown : w.ownsRow base e size v n xs) : (Builtin.append_ #[t, t] ty #[v, .slice none 0 cap]).run P w = .ok v w := by
  rcases hown.2 with ⟨rfl, rfl⟩ | ⟨g, c, cur, rfl, _, _, hnc, _⟩
  · simp [Builtin.append_, run_underlying ht, sizeOf, typeInfo, hi, Builtin.lenOf, Builtin.firstCells]
  · simp [Builtin.append_, run_underlying ht, sizeOf, typeInfo, hi, Builtin.lenOf, Builtin.firstCells, hnc, storeCells]

/-- append(s, x...) onto a slice of our own, whatever slice of bytes x is -/
theorem wpList_append_bytes {w : World} {ops : Array Oper} {rest : List Oper} {o : Oper} {a : Act} {Q : Exit → Act → World → Prop} (hgd : o.guard = none) (s x : Operand)
    (ho : o.op = .call { callee := .builtin .append, args := #[s, x], argTypes := #[22, 22] })
    (B : Nat) (v : Value) (xs : List UInt8) (hs : a.eval s = v) (hown : Own w B v xs)
    (ad : Option Addr) (m c : Nat) (ys : List UInt8) (hx : a.eval x = .slice ad m c) (hB : Bs w ad m c ys)
    (hlen : xs.length + m ≤ 140737488355328) (hbase : B ≤ w.heap.size)
    (h : ∀ v' w', Own w' B v' (xs ++ ys) → w.grownBy w' v.ownBlock → (v' = .slice none 0 0 ↔ v = .slice none 0 0 ∧ m = 0) → wpList Try.prog ops Q rest (a.put o.dst v') w') : wpList Try.prog ops Q (o :: rest) a w := by
  obtain ⟨i, hi, hz0, hz1, hz2⟩ := info_parts infoTB
  have hm := hB.1
  rcases hB.news with ⟨rfl, rfl, rfl⟩ | ⟨ad, rfl, hnews⟩
  · refine wpList_plain hgd fun K hK => ?_
    have hrun := run_append_none0 (P := Try.prog) (w := w) B 22 o.type TB i 1 Try.underlying22 hi v _ c _ hown
    unfold Oper.wp
    simp [execOp, ho, resolve, invoke, builtin, hs, hx, hrun, Result.andThen]
    exact hK _ _ (h v w (by simpa using hown) ⟨rfl, rfl, rfl, Nat.le_refl _, fun _ _ _ => rfl⟩ (by simp))
  · refine wpList_append_own w hgd s x 22 ho B TB i (.int .u8 0) 1 1 Try.underlying22 hi hz0 hz1 hz2 rfl (by decide) v xs.length (xs.map bv) hs hown ad m c (ys.map bv) hx (by simp; omega) hnews ?_ (by unfold maxLen; omega) (by omega) hbase fun v' w' h1 h2 h3 => h v' w' ?_ h2 h3
    · intro u hu
      obtain ⟨y, _, rfl⟩ := List.mem_map.1 hu
      rfl
    · subst hm
      unfold Own
      simpa using h1

end Go.Proofs.Ytklckjmlifddjaa
