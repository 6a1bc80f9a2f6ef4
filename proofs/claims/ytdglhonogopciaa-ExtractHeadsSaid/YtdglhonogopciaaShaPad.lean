/- What pads a message: shared by the program's and the document's text. -/
import Derived.Test.YtdglhonogopciaaShaNew
import Derived.Test.YtdglhonogopciaaStr
namespace Go.Proofs.Ytdglhonogopciaa
open Go.RowKit

theorem lt_new (w : World) (o : Obj) : w.heap.size < (w.alloc o).heap.size := by simp
theorem Own.empty' (w : World) : Own (w.alloc (.cells #[] TB)) w.heap.size (.slice (some ⟨w.heap.size, 0, none⟩) 0 0) [] :=
  Own.of_row (Row.made _ _ 0 0 [] rfl rfl (by omega) (by simp [maxLen]) rfl) (by simp)
/-- one byte in a block that has just been made -/
theorem Bs.one (w : World) (x : UInt8) : Bs (w.alloc (.cells #[.int .u8 (x.toNat : Int)] TB)) (some ⟨w.heap.size, 0, none⟩) 1 1 [x] :=
  Bs.newRow w _ TB (0, 0) 1 1 [x] rfl (Nat.le_refl _) (by simp [maxLen]) rfl
theorem Own.step {w w' : World} {B : Nat} {v : Value} {xs : List UInt8} (h : Own w B v xs) (hb : Below w.heap.size w w') : Own w' B v xs := h.below hb
def lenOf : Value → Nat
  | .slice _ n _ => n
  | _ => 0
/-- what one append of a byte leaves -/
theorem append_byte {w W : World} {B : Nat} {v : Value} {xs : List UInt8} (hE : Ext B w W) (h : Own W B v xs) (b : Int) (x : UInt8) (hb : b = (x.toNat : Int)) (hl : xs.length ≤ 2000000) {ops : Array Oper} {rest : List Oper} {o : Oper} {a : Act} {Q : Exit → Act → World → Prop} (hgd : o.guard = none) (s y : Operand)
    (ho : o.op = .call { callee := .builtin .append, args := #[s, y], argTypes := #[23, 23] }) (hs : a.eval s = v) (hy : a.eval y = .slice (some ⟨W.heap.size, 0, none⟩) 1 1)
    (hh : ∀ v' W', Ext B w W' → Own W' B v' (xs ++ [x]) → Chg (fun k => v.ownBlock = some k) W W' → wpList Try.prog ops Q rest (a.put o.dst v') W') : wpList Try.prog ops Q (o :: rest) a (W.alloc (.cells #[.int .u8 b] TB)) := by
  subst hb
  refine wpList_append_bytes hgd s y ho B v xs hs (h.alloc _) _ 1 1 [x] hy (Bs.one W x) (by omega) (by have := hE.2; simp; omega) fun v' W' h1 h2 _ => hh v' W' ?_ h1 ?_
  · exact (hE.alloc _).grown h2 (fun k hk => (World.ownsRow.lt h k hk).1)
  · exact ((Chg.refl _ W).alloc _).grown h2 (fun k _ hk => hk)

def padZ (xs : List UInt8) (k : Nat) : List UInt8 := xs ++ [0x80] ++ List.replicate k 0
theorem padZ_zero (xs : List UInt8) : xs ++ [0x80] = padZ xs 0 := by simp [padZ]
theorem padZ_succ (xs : List UInt8) (k : Nat) : padZ xs k ++ [0] = padZ xs (k + 1) := by
  unfold padZ; rw [List.append_assoc _ (List.replicate k 0), ← List.replicate_succ']
theorem padZ_length (xs : List UInt8) (k : Nat) : (padZ xs k).length = xs.length + 1 + k := by simp [padZ]; omega
theorem be8_take (n j : Nat) (h : j < 8) : (padTo.be8 n).take (j + 1) = (padTo.be8 n).take j ++ [(padTo.be8 n).getD j 0] := by
  match j, h with
  | 0, _ => rfl
  | 1, _ => rfl
  | 2, _ => rfl
  | 3, _ => rfl
  | 4, _ => rfl
  | 5, _ => rfl
  | 6, _ => rfl
  | 7, _ => rfl
theorem padTo_eq (xs : List UInt8) (n Z : Nat) (h : Z = (119 - xs.length % 64) % 64) : padTo xs n = padZ xs Z ++ (padTo.be8 n).take 8 := by subst h; rfl
theorem padTo_pos (xs : List UInt8) (n : Nat) : 0 < (padTo xs n).length := by simp [padTo]; omega
theorem u8_of (n : Nat) : ((UInt8.ofNat n).toNat : Int) = (n : Int) % 256 := by rw [UInt8.toNat_ofNat']; omega

end Go.Proofs.Ytdglhonogopciaa
