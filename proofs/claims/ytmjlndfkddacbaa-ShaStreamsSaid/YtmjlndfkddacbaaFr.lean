/- Appends in a region that draws its order: onto a slice whose block is new since the world S, or that is full; what S has stays. -/
import Derived.Test.YtmjlndfkddacbaaHeld
import Derived.Test.YtmjlndfkddacbaaMem
import Derived.ArgAppend
namespace Go.Proofs.Ytmjlndfkddacbaa
open Go.RowKit

def Fr (S w : World) (v : Value) (xs : List UInt8) : Prop :=
  Own w 0 v xs ∧ ((∀ g, v.ownBlock = some g → S.heap.size ≤ g) ∨ ∃ a n, v = .slice a n n)
theorem Fr.below {S w w' : World} {v : Value} {xs : List UInt8} (h : Fr S w v xs) (hb : Below w.heap.size w w') : Fr S w' v xs := ⟨h.1.below hb, h.2⟩
theorem Own.zero {w : World} {B : Nat} {v : Value} {xs : List UInt8} (h : Own w B v xs) : Own w 0 v xs := by
  rcases h.parts with ⟨rfl, rfl⟩ | ⟨g, cap, rfl, h2, h3⟩
  · exact Own.nil _ _
  · exact Own.of_row h3 (Nat.zero_le _)
theorem run_append_fr {S w : World} {v : Value} {xs : List UInt8} (h : Fr S w v xs) (hS : HB S w) (ad : Option Addr) (m c : Nat) (ys : List UInt8) (hB : Bs w ad m c ys) (ty : TypeId) (hl : xs.length + m ≤ 140737488355328) :
    ∃ v' w', (Builtin.append_ #[25, 25] ty #[v, .slice ad m c]).run Try.prog w = .ok v' w' ∧ Fr S w' v' (xs ++ ys) ∧ HB S w' := by
  have hSw : S.heap.size ≤ w.heap.size := Below.size hS
  obtain ⟨ho, hd⟩ := h
  have first : (∀ g, v.ownBlock = some g → S.heap.size ≤ g) → ∃ v' w', (Builtin.append_ #[25, 25] ty #[v, .slice ad m c]).run Try.prog w = .ok v' w' ∧ Fr S w' v' (xs ++ ys) ∧ HB S w' := by
    intro hg
    obtain ⟨v', w', r, h1, h2, _, h5⟩ := run_append_bytes 0 v xs ho ad m c ys hB ty hl (Nat.zero_le _)
    refine ⟨v', w', r, ⟨h1, .inl fun g hg' => ?_⟩, Below.grown hS h2 hSw hg⟩
    rcases h5 with h5 | h5
    · rw [h5] at hg'; exact hg g hg'
    · rw [h5] at hg'; injection hg' with hg'; omega
  rcases hd with hd | ⟨a, n, rfl⟩
  · exact first hd
  · rcases ho.parts with ⟨h1, _⟩ | ⟨g, cap, h1, _, hr⟩
    · rw [h1]; rw [h1] at first; exact first (fun g hg => by simp [Value.ownBlock] at hg)
    · injection h1 with e1 e2 e3
      subst e1 e3
      have e2' : xs.length = n := e2.symm
      obtain ⟨i, hi, hz0, hz1, hz2⟩ := info_parts infoTB
      by_cases hm : m = 0
      · subst hm
        obtain rfl := List.length_eq_zero_iff.1 hB.1
        refine ⟨.slice (some ⟨g, 0, none⟩) n n, w, ?_, ⟨by simpa using ho, .inr ⟨_, _, rfl⟩⟩, hS⟩
        cases ad with
        | none => simp [Builtin.append_, run_underlying Try.underlying25, sizeOf, typeInfo, hi, Builtin.lenOf, Builtin.firstCells, storeCells]
        | some ad => simp [Builtin.append_, run_underlying Try.underlying25, sizeOf, typeInfo, hi, Builtin.lenOf, Builtin.firstCells, storeCells, loadCells, loadCellsFrom]
      · rcases hB.news with ⟨_, h0, _⟩ | ⟨ad', rfl, hnews⟩
        · exact absurd h0 hm
        · obtain ⟨v', w', r, h1, h2⟩ := run_append_arg_grows (P := Try.prog) (w := w) 25 ty TB i (.int .u8 0) 1 1 Try.underlying25 hi hz0 hz1 hz2 rfl (by decide) ⟨g, 0, none⟩ n n (xs.map bv) (by simp; omega) (fun j u hu => by
            obtain ⟨hj, rfl⟩ := List.getElem?_eq_some_iff.1 hu
            rw [List.length_map] at hj
            have := hr.cell j hj
            rw [Addr.add_lit, Nat.zero_add, this]
            simp [bv]) ad' m c (ys.map bv) (by simp; exact hB.1) hnews (by omega) (by unfold maxLen; omega) (by omega)
          have hlt := World.ownsRow.lt h1
          refine ⟨v', w', r, ⟨?_, .inl fun k hk => Nat.le_trans hSw (hlt k hk).1⟩, Below.grown hS h2 hSw (fun k hk => by cases hk)⟩
          have : Own w' w.heap.size v' (xs ++ ys) := by
            unfold Own
            rw [List.length_append, hB.1, e2', List.map_append]
            exact h1
          exact this.zero
/-- at a step of a region -/
theorem step_append_fr {w : World} {ops : Array Oper} {o : Oper} {a : Act} {K : Act → World → Prop} {Q : Exit → Act → World → Prop} {E : Prop} (hgd : Region.wanted o (yielded ops a.tmps) = true) (s x : Operand)
    (ho : o.op = .call { callee := .builtin .append, args := #[s, x], argTypes := #[25, 25] }) (S : World) (v : Value) (xs : List UInt8) (hs : a.eval s = v) (h : Fr S w v xs) (hS : HB S w)
    (ad : Option Addr) (m c : Nat) (ys : List UInt8) (hx : a.eval x = .slice ad m c) (hB : Bs w ad m c ys) (hlen : xs.length + m ≤ 140737488355328)
    (hh : ∀ v' w', Fr S w' v' (xs ++ ys) → HB S w' → K (a.put o.dst v') w') :
    if Region.wanted o (yielded ops a.tmps) = true then Oper.wp Try.prog o a w K Q else E := by
  rw [if_pos hgd]
  obtain ⟨v', w', hr, h1, h2⟩ := run_append_fr h hS ad m c ys hB o.type hlen
  unfold Oper.wp execOp
  simp only [ho, resolve, invoke, builtin, Sem.run_bind, Sem.run_pure, Result.andThen_ok, List.map_toArray, List.map_cons, List.map_nil, hs, hx, hr]
  exact hh v' w' h1 h2
end Go.Proofs.Ytmjlndfkddacbaa
