/- point.Room, point.right, point.Newer. -/
import Derived.Test.YtdglhonogopciaaDoorPtLaw
import Derived.Test.YtdglhonogopciaaDoorCodecUse
namespace Go.Proofs.YtdglhonogopciaaDoor
open Go.RowKit

def plV (s p g : Int) : Value := .agg #[.int .i64 s, .int .i64 p, .int .i64 g]
def Mk.val (m : Mk) (ah : Option Addr) (lh ch : Nat) (al : Option Addr) (lt ct : Nat) : Value := .agg #[.int .u64 (m.gen : Int), .int .u64 (m.seq : Int), .int .i64 m.seg, .slice ah lh ch, .slice al lt ct]

theorem room_ok (s p g : Int) (w : World) (h : isPlan s p g) :
    Calls Tryd.prog 21 #[.agg #[.int .i64 s, .int .i64 p, .int .i64 g]] w fun e w' => e = .returned (.int .i64 (128 * p - 94)) ∧ Below w.heap.size w w' := by
  have hbd := h.bd
  have HR := Lib.hid (right_ok s p g (w.alloc (.cells #[.int .i64 s, .int .i64 p, .int .i64 g] 31)) h)
  clear h
  have i1 : IntKind.i64.wrap (128 * p) = 128 * p := IntWalk.i64_in _ (by omega)
  have i2 : IntKind.i64.wrap (128 * p - 94) = 128 * p - 94 := IntWalk.i64_in _ (by omega)
  have e1 : (0 : Int) ≤ 128 * p - 94 := by omega
  go_enter Tryd.func21, Tryd.ntmps21
  go_wp2_with fail
  refine HR.out.mono ?_
  rintro e w1 ⟨rfl, hb⟩
  have hE := ((Ext.refl w).alloc (.cells #[.int .i64 s, .int .i64 p, .int .i64 g] 31)).step hb
  have c1 : w1.cell? ⟨w.heap.size, 1, none⟩ = some (.int .i64 p) := cell_new_below hb 1
  clear hb HR
  go_wp2_with fail
  all_goals go_ret
  all_goals exact ⟨ret_int (by omega), hE.1⟩
theorem room_no (s p g : Int) (w : World) (h : ¬ isPlan s p g) :
    Calls Tryd.prog 21 #[.agg #[.int .i64 s, .int .i64 p, .int .i64 g]] w fun e w' => e = .returned (.int .i64 0) ∧ Below w.heap.size w w' := by
  have HR := Lib.hid (right_no s p g (w.alloc (.cells #[.int .i64 s, .int .i64 p, .int .i64 g] 31)) h)
  clear h
  go_enter Tryd.func21, Tryd.ntmps21
  go_wp2_with fail
  refine HR.out.mono ?_
  rintro e w1 ⟨rfl, hb⟩
  have hE := ((Ext.refl w).alloc (.cells #[.int .i64 s, .int .i64 p, .int .i64 g] 31)).step hb
  clear hb HR
  go_wp2_with fail
  go_ret
  exact ⟨rfl, hE.1⟩
set_option maxRecDepth 100000 in
theorem ptright_any (s p g : Int) (m : Mk) (ah al : Option Addr) (lh ch lt ct : Nat) (w : World) (hh : m.head.length = lh) :
    Calls Tryd.prog 31 #[.agg #[.int .i64 s, .int .i64 p, .int .i64 g], .agg #[.int .u64 (m.gen : Int), .int .u64 (m.seq : Int), .int .i64 m.seg, .slice ah lh ch, .slice al lt ct]] w fun e w' => e = .returned (.bool (decide (m.right g))) ∧ Below w.heap.size w w' := by
  obtain ⟨G, Q, S, H, T⟩ := m
  simp only at hh
  generalize hok : decide (Mk.right ⟨G, Q, S, H, T⟩ g) = ok
  have HO := Lib.hid hok
  have HH := Lib.hid hh
  clear hok hh
  simp only
  go_enter Tryd.func31, Tryd.ntmps31
  go_wp2
  all_goals go_ret
  all_goals refine ⟨ret_bool ?_, (((Ext.refl w).alloc _).alloc _).1⟩
  all_goals have hh := HH.out
  all_goals rw [← HO.out, Bool.eq_iff_iff]
  all_goals rw [decide_eq_true_iff (p := Mk.right _ _)]
  all_goals simp only [Mk.right, MT, Bool.false_eq_true, false_iff]
  all_goals (first | omega | (simp_all; done) | (simp_all; omega) | go_goals)
theorem newer_any (m n : Mk) (a1 a2 a3 a4 : Option Addr) (l1 l2 l3 l4 c1 c2 c3 c4 : Nat) (fa fb : Bool) (w : World) :
    Calls Tryd.prog 8 #[.agg #[.int .u64 (m.gen : Int), .int .u64 (m.seq : Int), .int .i64 m.seg, .slice a1 l1 c1, .slice a2 l2 c2], .agg #[.int .u64 (n.gen : Int), .int .u64 (n.seq : Int), .int .i64 n.seg, .slice a3 l3 c3, .slice a4 l4 c4], .bool fa, .bool fb] w
      fun e w' => e = .returned (.tuple #[.int .i64 (if fa = true ∧ (fb = false ∨ n.gen ≤ m.gen) then 0 else if fb = true then 1 else 0), .bool (fa || fb)]) ∧ Below w.heap.size w w' := by
  obtain ⟨G, Q, S, H, T⟩ := m
  obtain ⟨G', Q', S', H', T'⟩ := n
  simp only
  cases fa <;> cases fb
  all_goals simp only [Bool.false_eq_true, false_and, if_false, true_and, Bool.or_false, Bool.or_true, if_true, true_or, false_or, reduceCtorEq]
  · go_enter Tryd.func8, Tryd.ntmps8
    go_wp2
    go_ret2
    exact ⟨rfl, (((Ext.refl w).alloc _).alloc _).1⟩
  · go_enter Tryd.func8, Tryd.ntmps8
    go_wp2
    go_ret2
    exact ⟨rfl, (((Ext.refl w).alloc _).alloc _).1⟩
  · go_enter Tryd.func8, Tryd.ntmps8
    go_wp2
    go_ret2
    exact ⟨rfl, (((Ext.refl w).alloc _).alloc _).1⟩
  · by_cases hle : G' ≤ G
    · have h1 : (G' : Int) ≤ (G : Int) := by omega
      rw [if_pos hle]
      clear hle
      go_enter Tryd.func8, Tryd.ntmps8
      go_wp2
      go_ret2
      exact ⟨rfl, (((Ext.refl w).alloc _).alloc _).1⟩
    · have h1 : ¬ (G' : Int) ≤ (G : Int) := by omega
      rw [if_neg hle]
      clear hle
      go_enter Tryd.func8, Tryd.ntmps8
      go_wp2
      go_ret2
      exact ⟨rfl, (((Ext.refl w).alloc _).alloc _).1⟩
end Go.Proofs.YtdglhonogopciaaDoor
