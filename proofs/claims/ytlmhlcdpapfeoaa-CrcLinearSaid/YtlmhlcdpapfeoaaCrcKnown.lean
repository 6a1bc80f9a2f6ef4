/- The chapter's runs (permafrostlaw3.known). -/
import Derived.Test.YtlmhlcdpapfeoaaCrc
namespace Go.Proofs.Ytlmhlcdpapfeoaa
open Go.RowKit

theorem more_eq (c : Nat) (a : Option Addr) (len cap : Nat) (xs : List UInt8) (r : Nat) (w : World) (hc : c < 4294967296) (h : Bs w a len cap xs) (hr : crcMore c xs = r) :
    Calls Try.prog 19 #[.int .u32 (c : Int), .slice a len cap] w fun e w' => e = .returned (.int .u32 (r : Nat)) ∧ w = w' := hr ▸ more_any c a len cap xs w hc h

theorem crc_known (w : World) :
    Calls Try.prog 20 #[] w fun e w' => e = .returned (.bool true) ∧ Below w.heap.size w w' := by
  have H := Lib.hid crc_run
  have kc := fun (w : World) (C : Array Value) (n c : Nat) => Lib.run_convert_bytes_const (P := Try.prog) w 30 5 C n c Try.underlying30 Try.underlying5
  go_enter Try.func20, Try.ntmps20
  go_wp2_with fail
  refine (sum_any _ _ _ [49, 50, 51, 52, 53, 54, 55, 56, 57] _ (Bs.newRow _ _ _ _ _ _ _ rfl (by decide) (by simp [maxLen]) rfl)).mono ?_
  rintro e w' ⟨rfl, rfl⟩
  rw [H.out]
  go_wp2_with fail
  refine (sum_any none 0 0 [] _ (Bs.nil _)).mono ?_
  rintro e w' ⟨rfl, rfl⟩
  rw [show crcMore 0 [] = 0 from rfl]
  go_wp2_with fail
  go_ret
  exact ⟨rfl, ((Ext.refl w).alloc _).1⟩

end Go.Proofs.Ytlmhlcdpapfeoaa
