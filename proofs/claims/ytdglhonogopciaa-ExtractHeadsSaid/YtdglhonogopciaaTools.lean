/- Small tools of walks: a struct of three cells; an append whose operation stands behind a guard. -/
import Derived.Test.YtdglhonogopciaaMem
import Derived.BigFrame
namespace Go.Proofs.Ytdglhonogopciaa
open Go.RowKit

theorem three_set0 {w : World} {b : Nat} {u v x y : Value} {t : TypeId} (h : w.heap[b]? = some (.cells #[u, v, x] t (0, 0))) : (w.setCell ⟨b, 0, none⟩ y).heap[b]? = some (.cells #[y, v, x] t (0, 0)) := by
  simp [World.setCell, Array.getElem?_modify, h]
theorem wpList_append_w {w : World} {ops : Array Oper} {rest : List Oper} {o : Oper} {a : Act} {Q : Exit → Act → World → Prop} (hgd : Region.wanted o (yielded ops a.tmps) = true) (s x : Operand)
    (ho : o.op = .call { callee := .builtin .append, args := #[s, x], argTypes := #[23, 23] })
    (B : Nat) (v : Value) (xs : List UInt8) (hs : a.eval s = v) (hown : Own w B v xs)
    (ad : Option Addr) (m c : Nat) (ys : List UInt8) (hx : a.eval x = .slice ad m c) (hB : Bs w ad m c ys)
    (hlen : xs.length + m ≤ 140737488355328) (hbase : B ≤ w.heap.size)
    (h : ∀ v' w', Own w' B v' (xs ++ ys) → w.grownBy w' v.ownBlock → (v'.ownBlock = v.ownBlock ∨ v'.ownBlock = some w.heap.size) → wpList Try.prog ops Q rest (a.put o.dst v') w') : wpList Try.prog ops Q (o :: rest) a w :=
  BigFrame.wpList_want hgd fun _ hK => wp_append_at s x ho B v xs hs hown ad m c ys hx hB hlen hbase fun v' w' h1 h2 h3 => hK _ _ (h v' w' h1 h2 h3)
end Go.Proofs.Ytdglhonogopciaa
