/- errors.as and errors.As, at the targets **Fault and *Errno, at every error that is met here. -/
import Derived.Test.YtmbkcohkmedpgaaDoorFtFacts
import Derived.Deep.LoopGhost
namespace Go.Proofs.YtmbkcohkmedpgaaDoor
open Go.RowKit Go.Extern.Stop Go.Stop Go.Extern

theorem ft_mKind (h : Value) (w : World) : (Go.method 215 71 (.agg #[h]) "Kind").run Tryd.prog w = .ok (46, h) w := by kernel_rfl
theorem ft_mElem (h : Value) (w : World) : (Go.method 215 71 (.agg #[h]) "Elem").run Tryd.prog w = .ok (56, .agg #[h]) w := by kernel_rfl
theorem ft_mImpl (h : Value) (w : World) : (Go.method 215 71 (.agg #[h]) "Implements").run Tryd.prog w = .ok (57, .agg #[h]) w := by kernel_rfl
theorem ft_mAss (h : Value) (w : World) : (Go.method 215 71 (.agg #[h]) "AssignableTo").run Tryd.prog w = .ok (54, .agg #[h]) w := by kernel_rfl
theorem ft_mComp (h : Value) (w : World) : (Go.method 215 71 (.agg #[h]) "Comparable").run Tryd.prog w = .ok (55, .agg #[h]) w := by kernel_rfl
theorem ft_mUnw (p : Option Addr) (w : World) : (Go.method 215 27 (.pointer p) "Unwrap").run Tryd.prog w = .ok (12, .pointer p) w := by kernel_rfl

/-- what stands within the innermost Fault -/
inductive Leaf where
  | none
  | errno (k : Int)
  | other (b : Nat)
def Leaf.val : Leaf → Value
  | .none => .nilIface
  | .errno k => .iface 37 (.int .i64 k)
  | .other b => .iface 67 (.pointer (some ⟨b, 0, Option.none⟩))
/-- the number that stands there -/
def Leaf.num : Leaf → Option Value
  | .errno k => some (.int .i64 k)
  | _ => Option.none
/-- an error: Faults one within the other, the outermost one first -/
def Er (w : World) (L : Leaf) : List (List UInt8 × List UInt8) → Value → Prop
  | [], v => v = L.val
  | x :: l, v => ∃ (b : Nat) (inner : Value), v = .iface 27 (.pointer (some ⟨b, 0, Option.none⟩)) ∧ w.heap[b]? = some (.cells #[.string (strOf x.1), .string (strOf x.2), inner] 31 (0, 0)) ∧ Er w L l inner
theorem Er.below {w w' : World} {L : Leaf} : {l : List (List UInt8 × List UInt8)} → {v : Value} → Er w L l v → Below w.heap.size w w' → Er w' L l v
  | [], _, h, _ => h
  | _ :: _, _, ⟨b, i, h1, h2, h3⟩, hb => ⟨b, i, h1, (hb.block b (lt_of_heap h2)).trans h2, Er.below h3 hb⟩
/-- a block of one cell of another kind is changed -/
theorem Er.hit {w w' : World} {L : Leaf} {t : Nat} {o : Value} {T : TypeId} (hT : T ≠ 31) (ht : w.heap[t]? = some (.cells #[o] T (0, 0))) (hc : Chg (fun k => k = t) w w') : {l : List (List UInt8 × List UInt8)} → {v : Value} → Er w L l v → Er w' L l v
  | [], _, h => h
  | _ :: _, _, ⟨b, i, h1, h2, h3⟩ => ⟨b, i, h1, (hc.block b (lt_of_heap h2) (fun e => by
      have e' : b = t := e
      subst e'
      rw [h2] at ht
      injection ht with ht
      injection ht with _ h5 _
      exact hT h5.symm)).trans h2, Er.hit hT ht hc h3⟩
/-- the target is set, all else is as it was -/
def Hit (T : TypeId) (t : Nat) (x : Value) (w w' : World) : Prop := Chg (fun k => k = t) w w' ∧ w'.heap[t]? = some (.cells #[x] T (0, 0))
def AsPost (T : TypeId) (t : Nat) (x : Option Value) (w : World) (e : Ending) (w' : World) : Prop :=
  match x with
  | Option.none => e = .returned (.bool false) ∧ Below w.heap.size w w'
  | some x => e = .returned (.bool true) ∧ Hit T t x w w'
theorem Hit.mk2 {T : TypeId} {t : Nat} {x old : Value} {w : World} (ht : w.heap[t]? = some (.cells #[old] T (0, 0))) (o1 o2 : Obj) : Hit T t x w (((w.setCell ⟨t, 0, Option.none⟩ x).alloc o1).alloc o2) := by
  have h1 := cells_set (k := 0) (y := x) ht
  refine ⟨((((Chg.refl (fun k => k = t) w).setCell (p := ⟨t, 0, Option.none⟩) (fun _ => rfl) _).alloc _).alloc _), ?_⟩
  have hl := lt_of_heap h1
  rw [Below.heap_alloc _ _ t (by simp; exact Nat.lt_succ_of_lt (by simpa using hl)), Below.heap_alloc _ _ t hl]
  exact h1
theorem Hit.mk1 {T : TypeId} {t : Nat} {x old : Value} {w W : World} (hb : Below w.heap.size w W) (ht : W.heap[t]? = some (.cells #[old] T (0, 0))) (o : Obj) : Hit T t x w ((W.setCell ⟨t, 0, Option.none⟩ x).alloc o) := by
  have h1 := cells_set (k := 0) (y := x) ht
  refine ⟨((Chg.of_below hb (fun k => k = t)).setCell (p := ⟨t, 0, Option.none⟩) (fun _ => rfl) _).alloc _, ?_⟩
  have hl := lt_of_heap h1
  rw [Below.heap_alloc _ _ t hl]
  exact h1
theorem unwrap_any (b : Nat) (x y : List UInt8) (inner : Value) (w : World) (h : w.heap[b]? = some (.cells #[.string (strOf x), .string (strOf y), inner] 31 (0, 0))) :
    Calls Tryd.prog 12 #[.pointer (some ⟨b, 0, none⟩)] w fun e w' => e = .returned inner ∧ w' = w := by
  have c2 := cells_at h 2
  simp only [List.getElem?_toArray, List.getElem?_cons_zero, List.getElem?_cons_succ] at c2
  go_enter Tryd.func12, Tryd.ntmps12
  go_wp2
  go_ret
  exact ⟨rfl, rfl⟩

set_option maxHeartbeats 1000000 in
set_option maxRecDepth 100000 in
theorem as27_hit (e : Nat) (t a : Nat) (old : Value) (w : World) (ha : w.cell? ⟨a, 0, none⟩ = some (.pointer (some ⟨t, 0, none⟩))) (ht : w.heap[t]? = some (.cells #[old] 27 (0, 0))) :
    Calls Tryd.prog 26 #[.iface 27 (.pointer (some ⟨e, 0, none⟩)), .iface 29 (.pointer (some ⟨t, 0, none⟩)), .agg #[.pointer (some ⟨1, 29, none⟩), .pointer (some ⟨a, 0, none⟩), .int .u64 150], .iface 71 (.agg #[.pointer (some ⟨1, 27, none⟩)])] w fun ev w' => ev = .returned (.bool true) ∧ Hit 27 t (.pointer (some ⟨e, 0, none⟩)) w w' := by
  have h28 := @run_callFunc_extern Tryd.prog 28 _ ReflectliteType.typeOf Tryd.func28 (by kernel_rfl) (by kernel_rfl) (by kernel_rfl) (by kernel_rfl)
  have h54 := @run_callFunc_extern Tryd.prog 54 _ (ReflectliteType.relation "AssignableTo" ReflectliteType.assignableTo) Tryd.func54 (by kernel_rfl) (by kernel_rfl) (by kernel_rfl) (by kernel_rfl)
  have h30 := @run_callFunc_extern Tryd.prog 30 _ (ReflectliteValue.method (ReflectliteValue.valueError "reflectlite.Value.Elem" 0) ReflectliteValue.elem) Tryd.func30 (by kernel_rfl) (by kernel_rfl) (by kernel_rfl) (by kernel_rfl)
  have h31 := @run_callFunc_extern Tryd.prog 31 _ ReflectliteValue.set Tryd.func31 (by kernel_rfl) (by kernel_rfl) (by kernel_rfl) (by kernel_rfl)
  have h23 := @run_callFunc_extern Tryd.prog 23 _ (fun args => ReflectliteValue.unpack (args.getD 0 (.tuple #[]))) Tryd.func23 (by kernel_rfl) (by kernel_rfl) (by kernel_rfl) (by kernel_rfl)
  have t1 := ft_typeOf27
  have a1 := ft_ass27_27
  have v1 := ft_valueOf27
  have mA := ft_mAss
  have hal : a < w.heap.size := World.block_lt_of_cell? w _ ha
  have htl : t < w.heap.size := lt_of_heap ht
  have ht0 := cells_at ht 0
  simp only [List.getElem?_toArray, List.getElem?_cons_zero] at ht0
  have hf0 := frozen_at ht 0
  have HT := Lib.hid ht
  have el := ft_elemV29 ⟨a, 0, none⟩ ⟨t, 0, none⟩ (w.alloc (.cells #[.pointer (some ⟨1, 29, none⟩), .pointer (some ⟨a, 0, none⟩), .int .u64 150] 56)) (by rw [World.cell?_alloc_lt _ _ ⟨a, 0, none⟩ hal]; exact ha)
  have st := ft_set27 ⟨t, 0, none⟩ ⟨w.heap.size + 1, 0, none⟩ (some ⟨e, 0, none⟩) old ((w.alloc (.cells #[.pointer (some ⟨1, 29, none⟩), .pointer (some ⟨a, 0, none⟩), .int .u64 150] 56)).alloc (.cells #[.pointer (some ⟨e, 0, none⟩)] 27))
    (by rw [World.cell?_alloc_at _ _ _ _ (by simp)]; rfl)
    (by rw [World.cell?_alloc_lt _ _ ⟨t, 0, none⟩ (by simp; omega), World.cell?_alloc_lt _ _ ⟨t, 0, none⟩ htl]; exact ht0)
    (by rw [World.frozen?_alloc_old _ _ ⟨t, 0, none⟩ (by simp; omega), World.frozen?_alloc_old _ _ ⟨t, 0, none⟩ (Nat.ne_of_lt htl)]; exact hf0)
  clear ht
  go_enter Tryd.func26, Tryd.ntmps26
  go_wp2
  refine wp_loop_rounds 1 ?_
  rw [rounds_succ]
  go_wp2
  go_ret
  exact ⟨rfl, Hit.mk2 HT.out _ _⟩

set_option maxHeartbeats 1000000 in
set_option maxRecDepth 100000 in
theorem as27_miss67 (e : Nat) (t a : Nat) (w : World) :
    Calls Tryd.prog 26 #[.iface 67 (.pointer (some ⟨e, 0, none⟩)), .iface 29 (.pointer (some ⟨t, 0, none⟩)), .agg #[.pointer (some ⟨1, 29, none⟩), .pointer (some ⟨a, 0, none⟩), .int .u64 150], .iface 71 (.agg #[.pointer (some ⟨1, 27, none⟩)])] w fun ev w' => ev = .returned (.bool false) ∧ Below w.heap.size w w' := by
  have h28 := @run_callFunc_extern Tryd.prog 28 _ ReflectliteType.typeOf Tryd.func28 (by kernel_rfl) (by kernel_rfl) (by kernel_rfl) (by kernel_rfl)
  have h54 := @run_callFunc_extern Tryd.prog 54 _ (ReflectliteType.relation "AssignableTo" ReflectliteType.assignableTo) Tryd.func54 (by kernel_rfl) (by kernel_rfl) (by kernel_rfl) (by kernel_rfl)
  have t1 := ft_typeOf67
  have a1 := ft_ass67_27
  have mA := ft_mAss
  have n1 := ft_as67
  have n2 := ft_unw67
  have n3 := ft_unws67
  go_enter Tryd.func26, Tryd.ntmps26
  go_wp2
  refine wp_loop_rounds 1 ?_
  rw [rounds_succ]
  go_wp2
  go_ret
  exact ⟨rfl, (Below.refl _ _).alloc (Nat.le_refl _) _⟩

set_option maxHeartbeats 1000000 in
set_option maxRecDepth 100000 in
theorem as27_miss37 (e : Int) (t a : Nat) (w : World) :
    Calls Tryd.prog 26 #[.iface 37 (.int .i64 e), .iface 29 (.pointer (some ⟨t, 0, none⟩)), .agg #[.pointer (some ⟨1, 29, none⟩), .pointer (some ⟨a, 0, none⟩), .int .u64 150], .iface 71 (.agg #[.pointer (some ⟨1, 27, none⟩)])] w fun ev w' => ev = .returned (.bool false) ∧ Below w.heap.size w w' := by
  have h28 := @run_callFunc_extern Tryd.prog 28 _ ReflectliteType.typeOf Tryd.func28 (by kernel_rfl) (by kernel_rfl) (by kernel_rfl) (by kernel_rfl)
  have h54 := @run_callFunc_extern Tryd.prog 54 _ (ReflectliteType.relation "AssignableTo" ReflectliteType.assignableTo) Tryd.func54 (by kernel_rfl) (by kernel_rfl) (by kernel_rfl) (by kernel_rfl)
  have t1 := ft_typeOf37
  have a1 := ft_ass37_27
  have mA := ft_mAss
  have n1 := ft_as37
  have n2 := ft_unw37
  have n3 := ft_unws37
  go_enter Tryd.func26, Tryd.ntmps26
  go_wp2
  refine wp_loop_rounds 1 ?_
  rw [rounds_succ]
  go_wp2
  go_ret
  exact ⟨rfl, (Below.refl _ _).alloc (Nat.le_refl _) _⟩

set_option maxHeartbeats 1000000 in
set_option maxRecDepth 100000 in
theorem as37_hit (e : Int) (t a : Nat) (old : Value) (w : World) (ha : w.cell? ⟨a, 0, none⟩ = some (.pointer (some ⟨t, 0, none⟩))) (ht : w.heap[t]? = some (.cells #[old] 37 (0, 0))) :
    Calls Tryd.prog 26 #[.iface 37 (.int .i64 e), .iface 38 (.pointer (some ⟨t, 0, none⟩)), .agg #[.pointer (some ⟨1, 38, none⟩), .pointer (some ⟨a, 0, none⟩), .int .u64 150], .iface 71 (.agg #[.pointer (some ⟨1, 37, none⟩)])] w fun ev w' => ev = .returned (.bool true) ∧ Hit 37 t (.int .i64 e) w w' := by
  have h28 := @run_callFunc_extern Tryd.prog 28 _ ReflectliteType.typeOf Tryd.func28 (by kernel_rfl) (by kernel_rfl) (by kernel_rfl) (by kernel_rfl)
  have h54 := @run_callFunc_extern Tryd.prog 54 _ (ReflectliteType.relation "AssignableTo" ReflectliteType.assignableTo) Tryd.func54 (by kernel_rfl) (by kernel_rfl) (by kernel_rfl) (by kernel_rfl)
  have h30 := @run_callFunc_extern Tryd.prog 30 _ (ReflectliteValue.method (ReflectliteValue.valueError "reflectlite.Value.Elem" 0) ReflectliteValue.elem) Tryd.func30 (by kernel_rfl) (by kernel_rfl) (by kernel_rfl) (by kernel_rfl)
  have h31 := @run_callFunc_extern Tryd.prog 31 _ ReflectliteValue.set Tryd.func31 (by kernel_rfl) (by kernel_rfl) (by kernel_rfl) (by kernel_rfl)
  have h23 := @run_callFunc_extern Tryd.prog 23 _ (fun args => ReflectliteValue.unpack (args.getD 0 (.tuple #[]))) Tryd.func23 (by kernel_rfl) (by kernel_rfl) (by kernel_rfl) (by kernel_rfl)
  have t1 := ft_typeOf37
  have a1 := ft_ass37_37
  have v1 := ft_valueOf37
  have mA := ft_mAss
  have hal : a < w.heap.size := World.block_lt_of_cell? w _ ha
  have htl : t < w.heap.size := lt_of_heap ht
  have ht0 := cells_at ht 0
  simp only [List.getElem?_toArray, List.getElem?_cons_zero] at ht0
  have hf0 := frozen_at ht 0
  have HT := Lib.hid ht
  have el := ft_elemV38 ⟨a, 0, none⟩ ⟨t, 0, none⟩ (w.alloc (.cells #[.pointer (some ⟨1, 38, none⟩), .pointer (some ⟨a, 0, none⟩), .int .u64 150] 56)) (by rw [World.cell?_alloc_lt _ _ ⟨a, 0, none⟩ hal]; exact ha)
  have st := ft_set37 ⟨t, 0, none⟩ ⟨w.heap.size + 1, 0, none⟩ e old ((w.alloc (.cells #[.pointer (some ⟨1, 38, none⟩), .pointer (some ⟨a, 0, none⟩), .int .u64 150] 56)).alloc (.cells #[.int .i64 e] 37))
    (by rw [World.cell?_alloc_at _ _ _ _ (by simp)]; rfl)
    (by rw [World.cell?_alloc_lt _ _ ⟨t, 0, none⟩ (by simp; omega), World.cell?_alloc_lt _ _ ⟨t, 0, none⟩ htl]; exact ht0)
    (by rw [World.frozen?_alloc_old _ _ ⟨t, 0, none⟩ (by simp; omega), World.frozen?_alloc_old _ _ ⟨t, 0, none⟩ (Nat.ne_of_lt htl)]; exact hf0)
  clear ht
  go_enter Tryd.func26, Tryd.ntmps26
  go_wp2
  refine wp_loop_rounds 1 ?_
  rw [rounds_succ]
  go_wp2
  go_ret
  exact ⟨rfl, Hit.mk2 HT.out _ _⟩

set_option maxHeartbeats 1000000 in
set_option maxRecDepth 100000 in
theorem as37_miss67 (e : Nat) (t a : Nat) (w : World) :
    Calls Tryd.prog 26 #[.iface 67 (.pointer (some ⟨e, 0, none⟩)), .iface 38 (.pointer (some ⟨t, 0, none⟩)), .agg #[.pointer (some ⟨1, 38, none⟩), .pointer (some ⟨a, 0, none⟩), .int .u64 150], .iface 71 (.agg #[.pointer (some ⟨1, 37, none⟩)])] w fun ev w' => ev = .returned (.bool false) ∧ Below w.heap.size w w' := by
  have h28 := @run_callFunc_extern Tryd.prog 28 _ ReflectliteType.typeOf Tryd.func28 (by kernel_rfl) (by kernel_rfl) (by kernel_rfl) (by kernel_rfl)
  have h54 := @run_callFunc_extern Tryd.prog 54 _ (ReflectliteType.relation "AssignableTo" ReflectliteType.assignableTo) Tryd.func54 (by kernel_rfl) (by kernel_rfl) (by kernel_rfl) (by kernel_rfl)
  have t1 := ft_typeOf67
  have a1 := ft_ass67_37
  have mA := ft_mAss
  have n1 := ft_as67
  have n2 := ft_unw67
  have n3 := ft_unws67
  go_enter Tryd.func26, Tryd.ntmps26
  go_wp2
  refine wp_loop_rounds 1 ?_
  rw [rounds_succ]
  go_wp2
  go_ret
  exact ⟨rfl, (Below.refl _ _).alloc (Nat.le_refl _) _⟩

set_option maxHeartbeats 1000000 in
set_option maxRecDepth 100000 in
/-- an Errno that is looked for within Faults -/
theorem as37_any (L : Leaf) (l : List (List UInt8 × List UInt8)) (v : Value) (t a : Nat) (old : Value) (w : World) (hv : Er w L l v) (hn : v ≠ .nilIface) (ha : w.cell? ⟨a, 0, none⟩ = some (.pointer (some ⟨t, 0, none⟩))) (ht : w.heap[t]? = some (.cells #[old] 37 (0, 0))) :
    Calls Tryd.prog 26 #[v, .iface 38 (.pointer (some ⟨t, 0, none⟩)), .agg #[.pointer (some ⟨1, 38, none⟩), .pointer (some ⟨a, 0, none⟩), .int .u64 150], .iface 71 (.agg #[.pointer (some ⟨1, 37, none⟩)])] w fun ev w' => AsPost 37 t L.num w ev w' := by
  have h28 := @run_callFunc_extern Tryd.prog 28 _ ReflectliteType.typeOf Tryd.func28 (by kernel_rfl) (by kernel_rfl) (by kernel_rfl) (by kernel_rfl)
  have h54 := @run_callFunc_extern Tryd.prog 54 _ (ReflectliteType.relation "AssignableTo" ReflectliteType.assignableTo) Tryd.func54 (by kernel_rfl) (by kernel_rfl) (by kernel_rfl) (by kernel_rfl)
  have h30 := @run_callFunc_extern Tryd.prog 30 _ (ReflectliteValue.method (ReflectliteValue.valueError "reflectlite.Value.Elem" 0) ReflectliteValue.elem) Tryd.func30 (by kernel_rfl) (by kernel_rfl) (by kernel_rfl) (by kernel_rfl)
  have h31 := @run_callFunc_extern Tryd.prog 31 _ ReflectliteValue.set Tryd.func31 (by kernel_rfl) (by kernel_rfl) (by kernel_rfl) (by kernel_rfl)
  have h23 := @run_callFunc_extern Tryd.prog 23 _ (fun args => ReflectliteValue.unpack (args.getD 0 (.tuple #[]))) Tryd.func23 (by kernel_rfl) (by kernel_rfl) (by kernel_rfl) (by kernel_rfl)
  have mA := ft_mAss
  have mU := ft_mUnw
  have hal : a < w.heap.size := World.block_lt_of_cell? w _ ha
  have HV := Lib.hid hv
  have HN := Lib.hid hn
  have HT := Lib.hid ht
  have HA := Lib.hid ha
  have htl := lt_of_heap ht
  have hbW : Below w.heap.size w (w.alloc (.cells #[.pointer (some ⟨1, 38, none⟩), .pointer (some ⟨a, 0, none⟩), .int .u64 150] 56)) := (Below.refl _ _).alloc (Nat.le_refl _) _
  have hBx : (w.alloc (.cells #[.pointer (some ⟨1, 38, none⟩), .pointer (some ⟨a, 0, none⟩), .int .u64 150] 56)).heap[w.heap.size]? = some (.cells #[.pointer (some ⟨1, 38, none⟩), .pointer (some ⟨a, 0, none⟩), .int .u64 150] 56 (0, 0)) := heap_alloc_new w _
  have htW : (w.alloc (.cells #[.pointer (some ⟨1, 38, none⟩), .pointer (some ⟨a, 0, none⟩), .int .u64 150] 56)).heap[t]? = some (.cells #[old] 37 (0, 0)) := (hbW.block t htl).trans ht
  have haW : (w.alloc (.cells #[.pointer (some ⟨1, 38, none⟩), .pointer (some ⟨a, 0, none⟩), .int .u64 150] 56)).cell? ⟨a, 0, none⟩ = some (.pointer (some ⟨t, 0, none⟩)) := (hbW.cell (p := ⟨a, 0, none⟩) hal).trans ha
  have hvW := hv.below hbW
  obtain ⟨B, hB⟩ : ∃ B, B = w.heap.size := ⟨_, rfl⟩
  obtain ⟨W, hW⟩ : ∃ W, W = w.alloc (.cells #[.pointer (some ⟨1, 38, none⟩), .pointer (some ⟨a, 0, none⟩), .int .u64 150] 56) := ⟨_, rfl⟩
  rw [← hW] at hbW hBx htW haW hvW
  rw [← hB] at hBx
  have HW := Lib.hid (And.intro hB hW)
  have HS := Lib.hid (And.intro hbW (And.intro hBx (And.intro htW (And.intro haW (And.intro hvW htl)))))
  clear hW hB hv hn ht ha htl hbW hBx htW haW hvW hal
  clear HV HT HA
  go_enter Tryd.func26, Tryd.ntmps26
  go_wp2_with fail
  rw [← HW.out.1, ← HW.out.2]
  go_loopg [0] l.length (fun n u wx => ∃ l', l'.length = n ∧ Er W L l' u ∧ u ≠ .nilIface ∧ wx = W)
  case atStart => exact ⟨l, rfl, HS.out.2.2.2.2.1, HN.out, rfl⟩
  case round =>
    obtain ⟨l', hl', hE, hu, rfl⟩ := hrel
    obtain ⟨hbW, hBx, htW, haW, hvW, htl⟩ := HS.out
    cases l' with
    | nil =>
      have hu2 : u0 = L.val := hE
      clear hE hvW hl'
      cases L with
      | none => exact absurd hu2 hu
      | errno k =>
        replace hu2 : u0 = .iface 37 (.int .i64 k) := hu2
        subst hu2
        have t1 := ft_typeOf37
        have a1 := ft_ass37_37
        have v1 := ft_valueOf37
        have b0 := cells_at hBx 0; have b1 := cells_at hBx 1; have b2 := cells_at hBx 2
        simp only [List.getElem?_toArray, List.getElem?_cons_zero, List.getElem?_cons_succ] at b0 b1 b2
        have ht0 := cells_at htW 0
        simp only [List.getElem?_toArray, List.getElem?_cons_zero] at ht0
        have hf0 := frozen_at htW 0
        have htl2 := lt_of_heap htW
        have el := ft_elemV38 ⟨a, 0, none⟩ ⟨t, 0, none⟩ wr haW
        have st := ft_set37 ⟨t, 0, none⟩ ⟨wr.heap.size, 0, none⟩ k old (wr.alloc (.cells #[.int .i64 k] 37)) (by rw [World.cell?_alloc_at _ _ _ _ rfl]; rfl) (by rw [World.cell?_alloc_lt _ _ ⟨t, 0, none⟩ htl2]; exact ht0) (by rw [World.frozen?_alloc_old _ _ ⟨t, 0, none⟩ (Nat.ne_of_lt htl2)]; exact hf0)
        have HH := Lib.hid (Hit.mk1 (x := .int .i64 k) hbW htW (.cells #[.int .i64 k] 37))
        clear hu hbW hBx htW haW htl HS HN HW
        go_wp2
        go_ret
        exact ⟨rfl, HH.out⟩
      | other b =>
        replace hu2 : u0 = .iface 67 (.pointer (some ⟨b, 0, none⟩)) := hu2
        subst hu2
        have t1 := ft_typeOf67
        have a1 := ft_ass67_37
        have n1 := ft_as67
        have n2 := ft_unw67
        have n3 := ft_unws67
        have HH := Lib.hid hbW
        clear hu hbW hBx htW haW htl HS HN HW
        go_wp2
        go_ret
        exact ⟨rfl, HH.out⟩
    | cons x l'' =>
      obtain ⟨b, inner, rfl, hb, hi⟩ := hE
      have t1 := ft_typeOf27
      have a1 := ft_ass27_37
      have n1 := ft_as27
      have n2 := ft_unw27
      have HH := Lib.hid hbW
      have HI := Lib.hid hi
      have HL := Lib.hid hl'
      have HUn := Lib.hid (unwrap_any b x.1 x.2 inner wr hb)
      clear hu hbW hBx htW haW htl HN hvW hi hl' hb
      go_wp2_with fail
      refine HUn.out.mono ?_
      rintro e w2 ⟨rfl, rfl⟩
      by_cases hne : inner = .nilIface
      · have hL : L.num = Option.none := by
          have hi := HI.out
          cases l'' with
          | nil =>
            cases L with
            | none => rfl
            | errno k => rw [hne] at hi; cases hi
            | other b => rw [hne] at hi; cases hi
          | cons y l3 => obtain ⟨_, _, h, _⟩ := hi; rw [hne] at h; cases h
        subst hne
        clear HI HL HS HUn
        go_wp2
        go_ret
        rw [hL]
        exact ⟨rfl, HH.out⟩
      · obtain ⟨T, vv, rfl⟩ : ∃ T vv, inner = .iface T vv := by
          have hi := HI.out
          cases l'' with
          | nil =>
            cases L with
            | none => exact absurd hi hne
            | errno k => exact ⟨_, _, hi⟩
            | other b => exact ⟨_, _, hi⟩
          | cons y l3 => obtain ⟨_, _, h, _⟩ := hi; exact ⟨_, _, h⟩
        clear hne
        go_wp2_with fail
        go_roundg l''.length
        case measure => have := HL.out; simp at this; omega
        case rel => exact ⟨l'', rfl, HI.out, by simp, rfl⟩
end Go.Proofs.YtmbkcohkmedpgaaDoor
