/- Contracts of record.Right, record.Size, record.sum. -/
import Derived.Test.YtmjlndfkddacbaaCodecUse
import Derived.Test.YtmjlndfkddacbaaCrc
namespace Go.Proofs.Ytmjlndfkddacbaa
open Go.RowKit

def RecOk (kind : Int) (seq len : Nat) : Prop := seq ≤ 1099511627776 ∧ len ≤ 900 ∧ (kind = 1 ∨ (kind = 2 ∧ len = 0))
instance (k : Int) (s l : Nat) : Decidable (RecOk k s l) := by unfold RecOk; infer_instance

set_option maxRecDepth 100000 in
theorem recright_any (kind : Int) (seq : Nat) (a : Option Addr) (len cap : Nat) (w : World) :
    Calls Try.prog 45 #[.agg #[.int .i64 kind, .int .u64 (seq : Int), .slice a len cap]] w fun e w' => e = .returned (.bool (decide (RecOk kind seq len))) ∧ Below w.heap.size w w' := by
  generalize hok : decide (RecOk kind seq len) = ok
  have HO := Lib.hid hok
  clear hok
  go_enter Try.func45, Try.ntmps45
  go_wp2
  all_goals go_ret
  all_goals refine ⟨ret_bool ?_, ((Ext.refl w).alloc _).1⟩
  all_goals rw [← HO.out, Bool.eq_iff_iff]
  all_goals rw [decide_eq_true_iff (p := RecOk _ _ _)]
  all_goals simp only [RecOk, Bool.false_eq_true, false_iff]
  all_goals (first | omega | (simp_all; done) | (simp_all; omega) | go_goals)

set_option maxRecDepth 100000 in
theorem recsum_any (a : Option Addr) (len cap : Nat) (xs : List UInt8) (w : World) (h : Bs w a len cap xs) :
    Calls Try.prog 53 #[.slice a len cap] w fun e w' => ∃ v, e = .returned v ∧ Own w' w.heap.size v (be (crcMore 0 xs) 4) ∧ Below w.heap.size w w' := by
  have hcl := crcMore_lt 0 xs
  have HC := Lib.hid (sum_any a len cap xs w h)
  generalize crcMore 0 xs = c at *
  clear h
  have hb : be c 4 = [UInt8.ofNat (c / 16777216), UInt8.ofNat (c / 65536), UInt8.ofNat (c / 256), UInt8.ofNat c] := by simp [be]
  rw [hb]
  clear hb
  go_enter Try.func53, Try.ntmps53
  go_wp2_with fail
  refine HC.out.mono ?_
  rintro e w1 ⟨rfl, rfl⟩
  go_wp2_with fail
  go_ret
  refine ⟨_, rfl, Own.of_row (Row.made w _ 4 4 _ rfl rfl (by omega) (by simp [maxLen]) ?_) (Nat.le_refl _), ((Ext.refl w).alloc _).1⟩
  simp [bv, UInt8.toNat_ofNat']
  omega
end Go.Proofs.Ytmjlndfkddacbaa
