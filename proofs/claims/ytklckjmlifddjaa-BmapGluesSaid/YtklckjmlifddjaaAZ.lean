/- append(b, make([]byte, n)...) onto a row of our own. -/
import Derived.Test.YtklckjmlifddjaaMem
import Derived.Laws.CopyOwn
import Derived.Lib.AppendZerosOnto
namespace Go.Proofs.Ytklckjmlifddjaa
open Go.RowKit

theorem zeroCells_bytes (m : Nat) : Builtin.zeroCells #[.int .u8 0] m = (List.replicate m (bv 0)).toArray := by
  refine Array.ext (by simp [Builtin.zeroCells]) fun i h1 h2 => ?_
  simp [Builtin.zeroCells, bv, Nat.mod_one]
theorem Own.of_set {w : World} {B g cap : Nat} {xs ys : List UInt8} (hr : Row w g cap xs) (hB : B ≤ g) (h : xs.length + ys.length ≤ cap) (cur : Array Value) (hcur : w.heap[g]? = some (.cells cur TB (0, 0))) :
    Own (w.setRow g (cur.toList.take xs.length ++ (ys.map bv ++ cur.toList.drop (xs.length + ys.length))).toArray) B (.slice (some ⟨g, 0, none⟩) (xs.length + ys.length) cap) (xs ++ ys) := by
  obtain ⟨c2, h1, h2, h3, h4, h5⟩ := hr
  obtain rfl : cur = c2 := by rw [h1] at hcur; injection hcur with e; injection e with e; exact e.symm
  have hrow : Row (w.setRow g (cur.toList.take xs.length ++ (ys.map bv ++ cur.toList.drop (xs.length + ys.length))).toArray) g cap (xs ++ ys) := by
    refine ⟨_, setRow_heap w g cur _ TB (0, 0) h1, ?_, by simpa using h, h4, ?_⟩
    · simp; omega
    · rw [h5, ← List.append_assoc, List.map_append]
      exact List.take_left' (by simp)
  have := Own.of_row hrow hB
  rwa [List.length_append] at this
theorem run_append_zeros (w : World) (ty : TypeId) (B g cap : Nat) (xs : List UInt8) (m : Nat) (hr : Row w g cap xs) (hB : B ≤ g) (hBw : B ≤ w.heap.size) (hm : 0 < m) (hl : xs.length + m ≤ 1000000) :
    ∃ v' w', (Builtin.append_ #[22, 3] ty #[.slice (some ⟨g, 0, none⟩) xs.length cap, .int .i64 (m : Int)]).run Try.prog w = .ok v' w' ∧ Own w' B v' (xs ++ List.replicate m 0) ∧ w.grownBy w' (some g) := by
  obtain ⟨i, hi, hz0, hz1, hz2⟩ := info_parts infoTB
  have hw : IntKind.i64.wrap (m : Int) = (m : Int) := by rw [IntKind.wrap_i64]; omega
  have hneg : ¬ ((m : Int) < 0) := by omega
  have h48 : ¬ ((281474976710656 : Int) < (m : Int)) := by omega
  have hrl := hr.len
  have hR := hr
  obtain ⟨cur, h1, h2, h3, h4, h5⟩ := hr
  have hm0 : m ≠ 0 := by omega
  by_cases hroom : xs.length + m ≤ cap
  · have hst := run_storeCells_at Try.prog g xs.length TB ((List.replicate m (0 : UInt8)).map bv) 0 cur w h1 (by simp; omega) (by
      intro v hv
      obtain ⟨y, _, rfl⟩ := List.mem_map.1 hv
      rfl)
    simp only [Nat.add_zero] at hst
    refine ⟨.slice (some ⟨g, 0, none⟩) (xs.length + m) cap, w.setRow g (cur.toList.take xs.length ++ ((List.replicate m (0 : UInt8)).map bv ++ cur.toList.drop (xs.length + (List.replicate m (0 : UInt8)).length))).toArray, ?_, ?_, ?_⟩
    · simp [Builtin.append_, run_underlying Try.underlying22, run_underlying Try.underlying3, sizeOf, typeInfo, zeroValue, hi, hz0, hz1, hz2, asInt, asIntOf, hw, hneg, h48, hroom, hm0, Addr.add_lit, zeroCells_bytes, Value.cells] at hst ⊢
      rw [hst]
      rfl
    · have := Own.of_set hR hB (ys := List.replicate m 0) (by simpa using hroom) cur h1
      simpa using this
    · exact ⟨rfl, rfl, rfl, by simp, fun k _ hk => setRow_other w g k _ (fun e => hk (by rw [e]))⟩
  · have hold : (Builtin.firstCells i.size xs.length (.slice (some ⟨g, 0, none⟩) xs.length cap)).run Try.prog w.drew = .ok (xs.map bv).toArray w.drew := by
      refine run_firstCells_some w.drew i.size xs.length ⟨g, 0, none⟩ xs.length cap (xs.map bv) (by rw [hz1]; simp) ?_
      intro j u hu
      have hj : j < xs.length := by
        rcases Nat.lt_or_ge j xs.length with h | h
        · exact h
        · rw [List.getElem?_eq_none (by simpa using h)] at hu; cases hu
      have he : (⟨g, 0, none⟩ : Addr).add j = ⟨g, 0 + j, none⟩ := by by_cases hi0 : j = 0 <;> simp [Addr.add, hi0]
      rw [he, Nat.zero_add, hR.drew.cell j hj, ← hu]
      simp [bv, hj]
    have hfit : Builtin.nextslicecap (xs.length + m) cap * i.bytes ≤ 281474976710656 := by rw [hz2]; have := nextslicecap_le (need := xs.length + m) (old := cap) (by omega); omega
    have hrun := Lib.run_append_grow_zeros (P := Try.prog) w 22 3 ty TB i (.int .u8 0) .i64 .i64 Try.underlying22 Try.underlying3 hi hz0 (some ⟨g, 0, none⟩) xs.length cap (xs.map bv) hold m hm (by omega) (by omega) (by omega) (by rw [hz2]; omega) hfit
    have hge := grownCap_ge w (xs.length + m) cap TB
    have hle := grownCap_le_maxLen w (xs.length + m) cap TB (by unfold maxLen; omega)
    generalize grownCap w (xs.length + m) cap TB = c at *
    refine ⟨_, _, hrun, ?_, ?_⟩
    · have hrow := Row.made w.drew ((xs.map bv).toArray ++ Builtin.zeroCells (Value.int .u8 0).cells m ++ Builtin.zeroCells (Value.int .u8 0).cells (c - (xs.length + m))) (xs.length + m) c (xs ++ List.replicate m 0)
        (by simp [Value.cells, zeroCells_bytes]; omega) (by simp) (by omega) hle (by
          simp only [Value.cells, zeroCells_bytes, Array.toList_append, List.map_append]
          rw [List.take_left' (by simp)]
          simp)
      have := Own.of_row hrow (B := B) hBw
      rw [List.length_append, List.length_replicate] at this
      exact this
    · exact ⟨rfl, rfl, rfl, by simp, fun k hk _ => Below.heap_alloc _ _ _ hk⟩
/-- append(s, make([]byte, m)...) onto a row of our own -/
theorem wpList_append_zeros {w : World} {ops : Array Oper} {rest : List Oper} {o : Oper} {a : Act} {Q : Exit → Act → World → Prop} (hgd : o.guard = none) (s x : Operand)
    (ho : o.op = .call { callee := .builtin .append, args := #[s, x], argTypes := #[22, 3] })
    (B g cap : Nat) (xs : List UInt8) (n m : Nat) (hn : xs.length = n) (hs : a.eval s = .slice (some ⟨g, 0, none⟩) n cap) (hx : a.eval x = .int .i64 (m : Int)) (hr : Row w g cap xs) (hB : B ≤ g) (hBw : B ≤ w.heap.size) (hm : 0 < m) (hl : n + m ≤ 1000000)
    (h : ∀ v' w', Own w' B v' (xs ++ List.replicate m 0) → w.grownBy w' (some g) → wpList Try.prog ops Q rest (a.put o.dst v') w') : wpList Try.prog ops Q (o :: rest) a w := by
  subst hn
  obtain ⟨v', w', hrun, h1, h2⟩ := run_append_zeros w o.type B g cap xs m hr hB hBw hm hl
  exact Lib.wpList_append_run w hgd s x 22 3 ho _ _ hs hx v' w' hrun (h v' w' h1 h2)
end Go.Proofs.Ytklckjmlifddjaa
