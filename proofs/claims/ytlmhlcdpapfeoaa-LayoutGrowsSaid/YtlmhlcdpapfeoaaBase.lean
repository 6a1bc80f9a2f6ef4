/- Small lemmas that all texts of this seat use: no program in sight. -/
import Derived.WalkKit
import Derived.Lib.Hide
import Derived.Deep.DeepFit
namespace Go.Proofs.Ytlmhlcdpapfeoaa
open Go.RowKit

/-- What a walk is told of a slice of integers that came in: nil, or a row of 'cap' cells. -/
def IsRow (k : IntKind) (w : World) (a : Option Addr) (len cap : Nat) (zs : List Int) : Prop :=
  (a = none ∧ len = 0 ∧ cap = 0 ∧ zs = []) ∨
  ∃ x, a = some x ∧ len ≤ cap ∧ cap ≤ maxLen ∧ zs.length = cap ∧ (∀ i, i < zs.length → w.cell? (x.add i) = some (.int k (zs.getD i 0))) ∧ ∀ n ∈ zs, (Lit.int k n).wf = true

theorem ret_int {k : IntKind} {a b : Int} (h : a = b) : Ending.returned (.int k a) = .returned (.int k b) := by rw [h]
theorem ret_bool {a b : Bool} (h : a = b) : Ending.returned (.bool a) = .returned (.bool b) := by rw [h]

theorem bcell {W w1 : World} (hb : Below W.heap.size W w1) : (∀ b o, b < W.heap.size → w1.cell? ⟨b, o, none⟩ = W.cell? ⟨b, o, none⟩) ∧ (∀ b o, b < W.heap.size → w1.frozen? ⟨b, o, none⟩ = W.frozen? ⟨b, o, none⟩) :=
  ⟨fun b o h => hb.cell (p := ⟨b, o, none⟩) h, fun b o h => hb.frozen (p := ⟨b, o, none⟩) h⟩

/-- 'Below', with the size at hand: a chain of events is typed in their order -/
def Ext (B : Nat) (a w : World) : Prop := Below B a w ∧ B ≤ w.heap.size
theorem Ext.refl (w : World) : Ext w.heap.size w w := ⟨Below.refl _ _, Nat.le_refl _⟩
theorem Ext.alloc {B : Nat} {a w : World} (h : Ext B a w) (o : Obj) : Ext B a (w.alloc o) := ⟨h.1.alloc h.2 o, by have := h.2; simp; omega⟩
theorem Ext.step {B : Nat} {a w w' : World} (h : Ext B a w) (hb : Below w.heap.size w w') : Ext B a w' := ⟨h.1.trans (hb.mono h.2), Nat.le_trans h.2 hb.size⟩
theorem Ext.drew {B : Nat} {a w : World} (h : Ext B a w) : Ext B a w.drew := ⟨h.1.drew, h.2⟩
theorem Ext.setCell {B : Nat} {a w : World} (h : Ext B a w) {p : Addr} (hp : B ≤ p.block) (u : Value) : Ext B a (w.setCell p u) := ⟨h.1.setCell hp u, by have := h.2; simpa [World.setCell] using this⟩

/-- a number brought into lo .. hi, in plain Lean -/
def within (n lo hi : Int) : Int := lo + n % (hi - lo + 1)

theorem tmod_bd (n m : Int) (hm : 0 < m) : -m < n.tmod m ∧ n.tmod m < m := by
  rw [Int.tmod_eq_emod]
  have h1 := Int.emod_nonneg n (show m ≠ 0 by omega)
  have h2 := Int.emod_lt_of_pos n hm
  split <;> omega
theorem tmod_neg (n m : Int) (hm : 0 < m) (h : n.tmod m < 0) : n.tmod m + m = n % m := by
  rw [Int.tmod_eq_emod] at *
  have h1 := Int.emod_nonneg n (show m ≠ 0 by omega)
  have h2 := Int.emod_lt_of_pos n hm
  split at h <;> rename_i hh <;> simp [hh] <;> omega
theorem tmod_pos (n m : Int) (hm : 0 < m) (h : 0 ≤ n.tmod m) : n.tmod m = n % m := by
  rw [Int.tmod_eq_emod] at *
  have h1 := Int.emod_nonneg n (show m ≠ 0 by omega)
  have h2 := Int.emod_lt_of_pos n hm
  split at h <;> rename_i hh <;> simp [hh] <;> omega

theorem within_bd (n lo hi : Int) (h1 : lo ≤ hi) : lo ≤ within n lo hi ∧ within n lo hi ≤ hi := by
  unfold within
  have h1 := Int.emod_nonneg n (show hi - lo + 1 ≠ 0 by omega)
  have h2 := Int.emod_lt_of_pos n (show 0 < hi - lo + 1 by omega)
  omega

end Go.Proofs.Ytlmhlcdpapfeoaa
