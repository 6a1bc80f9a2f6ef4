/- Appends of rows behind a guard, and onto a literal. -/
import Derived.Test.YtklckjmlifddjaaML
import Derived.BigFrame
namespace Go.Proofs.Ytklckjmlifddjaa
open Go.RowKit

/-- rows that were there do not lie in a newer block -/
theorem LL.apart {wd w : World} {a : Option Addr} {n cap : Nat} {ls : List (List UInt8)} (h : LL wd a n cap ls) (hb : Below wd.heap.size wd w) {o : Option Nat} (ho : ∀ k, o = some k → wd.heap.size ≤ k) :
    ∀ b off, a = some ⟨b, off, none⟩ → ∀ i, i < n → ∀ a' m' c', w.cell? ⟨b, off + i, none⟩ = some (.slice a' m' c') → 0 < m' → ∀ x, a' = some x → o ≠ some x.block := by
  intro b off ha i hi a' m' c' hc h0 x hx e
  obtain ⟨b1, o1, h1, h2, h3⟩ := h.at (by omega)
  rw [ha] at h1
  injection h1 with h1; injection h1 with e1 e2
  subst e1 e2
  obtain ⟨a2, m2, c2, h4, h5⟩ := h3 i hi
  rw [hb.cell (p := ⟨b, off + i, none⟩) h2, h4] at hc
  injection hc with hc; injection hc with d1 d2 d3
  subst d1 d2
  have := h5.blk' h0 x hx
  have := ho _ e
  omega
theorem step_append_ll {w : World} {ops : Array Oper} {o : Oper} {a : Act} {K : Act → World → Prop} {Q : Exit → Act → World → Prop} {E : Prop} (hgd : Region.wanted o (yielded ops a.tmps) = true) (s x : Operand)
    (ho : o.op = .call { callee := .builtin .append, args := #[s, x], argTypes := #[24, 24] })
    (B : Nat) (v : Value) (ls : List (List UInt8)) (hs : a.eval s = v) (h : OwnL w B v ls) (ad : Option Addr) (m c : Nat) (ys : List (List UInt8)) (hx : a.eval x = .slice ad m c) (hB : LL w ad m c ys)
    (hap : ∀ b off, ad = some ⟨b, off, none⟩ → ∀ i, i < m → ∀ a' m' c', w.cell? ⟨b, off + i, none⟩ = some (.slice a' m' c') → 0 < m' → ∀ x, a' = some x → v.ownBlock ≠ some x.block) (hlen : ls.length + m ≤ 1000000) (hbase : B ≤ w.heap.size)
    (hh : ∀ v' w', OwnL w' B v' (ls ++ ys) → w.grownBy w' v.ownBlock → (v'.ownBlock = v.ownBlock ∨ v'.ownBlock = some w.heap.size) → K (a.put o.dst v') w') :
    if Region.wanted o (yielded ops a.tmps) = true then Oper.wp Try.prog o a w K Q else E := by
  rw [if_pos hgd]
  obtain ⟨v', w', hr, h2, h3, h4⟩ := run_append_ll B v ls h ad m c ys hB hap o.type hlen hbase
  unfold Oper.wp execOp
  simp only [ho, resolve, invoke, builtin, Sem.run_bind, Sem.run_pure, Result.andThen_ok, List.map_toArray, List.map_cons, List.map_nil, hs, hx, hr]
  exact hh v' w' h2 h3 h4
/-- the walk's forms, behind a guard -/
theorem wpList_append_ll_w {w : World} {ops : Array Oper} {rest : List Oper} {o : Oper} {a : Act} {Q : Exit → Act → World → Prop} (hgd : Region.wanted o (yielded ops a.tmps) = true) (s x : Operand)
    (ho : o.op = .call { callee := .builtin .append, args := #[s, x], argTypes := #[24, 24] })
    (B : Nat) (v : Value) (ls : List (List UInt8)) (hs : a.eval s = v) (h : OwnL w B v ls) (ad : Option Addr) (m c : Nat) (ys : List (List UInt8)) (hx : a.eval x = .slice ad m c) (hB : LL w ad m c ys)
    (hap : ∀ b off, ad = some ⟨b, off, none⟩ → ∀ i, i < m → ∀ a' m' c', w.cell? ⟨b, off + i, none⟩ = some (.slice a' m' c') → 0 < m' → ∀ x, a' = some x → v.ownBlock ≠ some x.block) (hlen : ls.length + m ≤ 1000000) (hbase : B ≤ w.heap.size)
    (hh : ∀ v' w', OwnL w' B v' (ls ++ ys) → w.grownBy w' v.ownBlock → (v'.ownBlock = v.ownBlock ∨ v'.ownBlock = some w.heap.size) → wpList Try.prog ops Q rest (a.put o.dst v') w') : wpList Try.prog ops Q (o :: rest) a w := by
  refine BigFrame.wpList_want hgd fun _ hK => ?_
  obtain ⟨v', w', hr, h2, h3, h4⟩ := run_append_ll B v ls h ad m c ys hB hap o.type hlen hbase
  unfold Oper.wp execOp
  simp only [ho, resolve, invoke, builtin, Sem.run_bind, Sem.run_pure, Result.andThen_ok, List.map_toArray, List.map_cons, List.map_nil, hs, hx, hr]
  exact hK _ _ (hh v' w' h2 h3 h4)
theorem wpList_append_row_w {w : World} {ops : Array Oper} {rest : List Oper} {o : Oper} {a : Act} {Q : Exit → Act → World → Prop} (hgd : Region.wanted o (yielded ops a.tmps) = true) (s x : Operand)
    (ho : o.op = .call { callee := .builtin .append, args := #[s, x], argTypes := #[24, 24] }) (hx : a.eval x = .slice (some ⟨w.heap.size, 0, none⟩) 1 1)
    (B : Nat) (v : Value) (ls : List (List UInt8)) (hs : a.eval s = v) (h : OwnL w B v ls) (a' : Option Addr) (m c : Nat) (ys : List UInt8) (hy : Bs w a' m c ys) (hap : 0 < m → ∀ x, a' = some x → v.ownBlock ≠ some x.block)
    (hlen : ls.length + 1 ≤ 1000000) (hbase : B ≤ w.heap.size)
    (hh : ∀ v' w', OwnL w' B v' (ls ++ [ys]) → (w.alloc (.cells #[.slice a' m c] TBS)).grownBy w' v.ownBlock → wpList Try.prog ops Q rest (a.put o.dst v') w') : wpList Try.prog ops Q (o :: rest) a (w.alloc (.cells #[.slice a' m c] TBS)) := by
  refine BigFrame.wpList_want hgd fun _ hK => ?_
  obtain ⟨v', w', hr, h2, h3⟩ := run_append_row B v ls h a' m c ys hy hap o.type hlen hbase
  unfold Oper.wp execOp
  simp only [ho, resolve, invoke, builtin, Sem.run_bind, Sem.run_pure, Result.andThen_ok, List.map_toArray, List.map_cons, List.map_nil, hs, hx, hr]
  exact hK _ _ (hh v' w' h2 h3)
end Go.Proofs.Ytklckjmlifddjaa
