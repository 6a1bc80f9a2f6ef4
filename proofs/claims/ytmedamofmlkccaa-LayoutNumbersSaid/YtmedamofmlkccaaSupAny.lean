/- layout.Super and the document's, whatever they are handed: one answer. -/
import Derived.Test.YtmedamofmlkccaaLaw19
namespace Go.Proofs.Ytmedamofmlkccaa
open Go.RowKit

def supA (n : Int) (id : List UInt8) : List UInt8 × Int := if 64 ≤ n ∧ n ≤ 4096 ∧ id.length = 16 then (supBytes n.toNat id, 0) else ([], 1)
theorem supA_len (n : Int) (id : List UInt8) : (supA n id).1.length ≤ 128 := by
  unfold supA
  split
  · rename_i h; exact Nat.le_of_eq (supBytes_length _ _ h.2.2)
  · simp
theorem sup_any (n : Int) (a : Option Addr) (len cap : Nat) (id : List UInt8) (w : World) (h : Bs w a len cap id) :
    Calls Try.prog 45 #[.int .i64 n, .slice a len cap] w fun e w' => ∃ v, e = .returned (.tuple #[v, .int .i64 (supA n id).2]) ∧ Own w' w.heap.size v (supA n id).1 ∧ Below w.heap.size w w' := by
  unfold supA
  have hl := h.1
  by_cases hc : 64 ≤ n ∧ n ≤ 4096 ∧ id.length = 16
  · rw [if_pos hc]
    obtain ⟨m, rfl⟩ : ∃ m : Nat, n = (m : Int) := ⟨n.toNat, by omega⟩
    obtain rfl : len = 16 := by omega
    rw [Int.toNat_natCast]
    exact super_ok m a cap id w h (by omega) (by omega)
  · rw [if_neg hc]
    refine (super_no n a len cap w (by omega)).mono ?_
    rintro e w' ⟨rfl, hb⟩
    exact ⟨_, rfl, Own.nil _ _, hb⟩
theorem rsupa_any (n : Int) (a : Option Addr) (len cap : Nat) (id : List UInt8) (w : World) (h : Bs w a len cap id) :
    Calls Try.prog 51 #[.int .i64 n, .slice a len cap] w fun e w' => ∃ v, e = .returned (.tuple #[v, .int .i64 (supA n id).2]) ∧ Own w' w.heap.size v (supA n id).1 ∧ Below w.heap.size w w' := by
  unfold supA
  have hl := h.1
  by_cases hc : 64 ≤ n ∧ n ≤ 4096 ∧ id.length = 16
  · rw [if_pos hc]
    obtain ⟨m, rfl⟩ : ∃ m : Nat, n = (m : Int) := ⟨n.toNat, by omega⟩
    obtain rfl : len = 16 := by omega
    rw [Int.toNat_natCast]
    exact rsuper_ok m a cap id w h (by omega) (by omega)
  · rw [if_neg hc]
    refine (rsuper_no n a len cap w (by omega)).mono ?_
    rintro e w' ⟨rfl, hb⟩
    exact ⟨_, rfl, Own.nil _ _, hb⟩
end Go.Proofs.Ytmedamofmlkccaa
