/- record.Encode of what may not be; record.Size. -/
import Derived.Test.YtmjlndfkddacbaaRecordEnc
namespace Go.Proofs.Ytmjlndfkddacbaa
open Go.RowKit

set_option maxRecDepth 100000 in
theorem recenc_no (kind : Int) (seq : Nat) (a : Option Addr) (len cap : Nat) (w : World) (hok : ¬ RecOk kind seq len) :
    Calls Try.prog 19 #[.agg #[.int .i64 kind, .int .u64 (seq : Int), .slice a len cap]] w fun e w' => e = .returned (.tuple #[.slice none 0 0, .int .i64 12]) ∧ Below w.heap.size w w' := by
  have HR := Lib.hid (recright_any kind seq a len cap (w.alloc (.cells #[.int .i64 kind, .int .u64 (seq : Int), .slice a len cap] 27)))
  rw [decide_eq_false hok] at HR
  clear hok
  go_enter Try.func19, Try.ntmps19
  go_wp2_with fail
  refine HR.out.mono ?_
  rintro e w1 ⟨rfl, hb⟩
  go_wp2_with fail
  go_ret2
  exact ⟨rfl, (((Ext.refl w).alloc _).step hb).1⟩
set_option maxRecDepth 100000 in
theorem recsize_any (kind : Int) (seq : Nat) (a : Option Addr) (len cap : Nat) (w : World) :
    Calls Try.prog 21 #[.agg #[.int .i64 kind, .int .u64 (seq : Int), .slice a len cap]] w fun e w' => e = .returned (.int .i64 (if RecOk kind seq len then 15 + (len : Int) else 0)) ∧ Below w.heap.size w w' := by
  have HR := Lib.hid (recright_any kind seq a len cap (w.alloc (.cells #[.int .i64 kind, .int .u64 (seq : Int), .slice a len cap] 27)))
  by_cases hok : RecOk kind seq len
  · rw [decide_eq_true hok] at HR
    rw [if_pos hok]
    have hl := hok.2.1
    clear hok
    go_enter Try.func21, Try.ntmps21
    go_wp2_with fail
    refine HR.out.mono ?_
    rintro e w1 ⟨rfl, hb⟩
    have c2 : w1.cell? ⟨w.heap.size, 2, none⟩ = some (.slice a len cap) := cell_new_below hb 2
    have hE := ((Ext.refl w).alloc (.cells #[.int .i64 kind, .int .u64 (seq : Int), .slice a len cap] 27)).step hb
    go_wp2_with fail
    go_ret
    exact ⟨ret_int (by omega), hE.1⟩
  · rw [decide_eq_false hok] at HR
    rw [if_neg hok]
    clear hok
    go_enter Try.func21, Try.ntmps21
    go_wp2_with fail
    refine HR.out.mono ?_
    rintro e w1 ⟨rfl, hb⟩
    go_wp2_with fail
    go_ret
    exact ⟨rfl, (((Ext.refl w).alloc _).step hb).1⟩
end Go.Proofs.Ytmjlndfkddacbaa
