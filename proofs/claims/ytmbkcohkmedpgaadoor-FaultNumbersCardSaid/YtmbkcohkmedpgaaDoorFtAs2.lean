/- errors.As, at the targets **Fault and *Errno; errors.is, errors.Is at an Errno. -/
import Derived.Test.YtmbkcohkmedpgaaDoorFtAs
namespace Go.Proofs.YtmbkcohkmedpgaaDoor
open Go.RowKit Go.Extern.Stop Go.Stop Go.Extern

/-- what errors.errorType holds -/
def Gl (w : World) : Prop := w.cell? ⟨0, 0, none⟩ = some (.iface 71 (.agg #[.pointer (some ⟨1, 25, none⟩)]))
theorem Gl.lt {w : World} (h : Gl w) : 0 < w.heap.size := World.block_lt_of_cell? w ⟨0, 0, none⟩ h
theorem Gl.below {w w' : World} (h : Gl w) (hb : Below w.heap.size w w') : Gl w' := (hb.cell (p := ⟨0, 0, none⟩) h.lt).trans h
theorem Gl.chg {w w' : World} {t : Nat} (h : Gl w) (hc : Chg (fun k => k = t) w w') (ht : t ≠ 0) : Gl w' := (hc.cell h.lt (fun e => ht (Eq.symm e))).trans h
theorem AsPost.from {T : TypeId} {t : Nat} {x : Option Value} {w W : World} {e : Ending} {w' : World} (h : AsPost T t x W e w') (hb : Below w.heap.size w W) : AsPost T t x w e w' := by
  cases x with
  | none => exact ⟨h.1, hb.trans (h.2.mono hb.size)⟩
  | some x => exact ⟨h.1, (Chg.of_below hb (fun k => k = t)).trans h.2.1 (fun _ _ h => h), h.2.2⟩
theorem AsPost.bool {T : TypeId} {t : Nat} {x : Option Value} {w : World} {e : Ending} {w' : World} (h : AsPost T t x w e w') : ∃ b, e = .returned (.bool b) := by
  cases x with
  | none => exact ⟨_, h.1⟩
  | some x => exact ⟨_, h.1⟩
theorem As_nil (t : Value) (w : World) : Calls Tryd.prog 9 #[.nilIface, t] w fun e w' => e = .returned (.bool false) ∧ w' = w := by
  go_enter Tryd.func9, Tryd.ntmps9
  go_wp2
  go_ret
  exact ⟨rfl, rfl⟩

set_option maxHeartbeats 1000000 in
set_option maxRecDepth 100000 in
theorem As27_from (S : TypeId) (x : Value) (t : Nat) (o : Option Value) (old : Value) (w : World) (hG : Gl w) (ht : w.heap[t]? = some (.cells #[old] 27 (0, 0)))
    (hc : ∀ (W : World) (a : Nat), Below w.heap.size w W → W.cell? ⟨a, 0, none⟩ = some (.pointer (some ⟨t, 0, none⟩)) → W.heap[t]? = some (.cells #[old] 27 (0, 0)) →
      Calls Tryd.prog 26 #[.iface S x, .iface 29 (.pointer (some ⟨t, 0, none⟩)), .agg #[.pointer (some ⟨1, 29, none⟩), .pointer (some ⟨a, 0, none⟩), .int .u64 150], .iface 71 (.agg #[.pointer (some ⟨1, 27, none⟩)])] W fun e W' => AsPost 27 t o W e W') :
    Calls Tryd.prog 9 #[.iface S x, .iface 29 (.pointer (some ⟨t, 0, none⟩))] w fun e w' => AsPost 27 t o w e w' := by
  have h23 := @run_callFunc_extern Tryd.prog 23 _ (fun args => ReflectliteValue.unpack (args.getD 0 (.tuple #[]))) Tryd.func23 (by kernel_rfl) (by kernel_rfl) (by kernel_rfl) (by kernel_rfl)
  have h24 := @run_callFunc_extern Tryd.prog 24 _ (ReflectliteValue.methodAny (ReflectliteValue.valueError "reflectlite.Value.Type" 0) (fun t _ _ _ => ReflectliteType.toType t)) Tryd.func24 (by kernel_rfl) (by kernel_rfl) (by kernel_rfl) (by kernel_rfl)
  have h25 := @run_callFunc_extern Tryd.prog 25 _ (ReflectliteValue.method (ReflectliteValue.valueError "reflectlite.Value.IsNil" 0) ReflectliteValue.isNil) Tryd.func25 (by kernel_rfl) (by kernel_rfl) (by kernel_rfl) (by kernel_rfl)
  have h46 := @run_callFunc_extern Tryd.prog 46 _ (ReflectliteType.abiMethod fun t => do pure (.int .u8 (← Rtype.kind t))) Tryd.func46 (by kernel_rfl) (by kernel_rfl) (by kernel_rfl) (by kernel_rfl)
  have h56 := @run_callFunc_extern Tryd.prog 56 _ (ReflectliteType.method ReflectliteType.elem) Tryd.func56 (by kernel_rfl) (by kernel_rfl) (by kernel_rfl) (by kernel_rfl)
  have h57 := @run_callFunc_extern Tryd.prog 57 _ (ReflectliteType.relation "Implements" ReflectliteType.implements_) Tryd.func57 (by kernel_rfl) (by kernel_rfl) (by kernel_rfl) (by kernel_rfl)
  have v1 := ft_valueOf29
  have y1 := ft_type29
  have k1 := ft_kind29
  have k2 := ft_kind27
  have e1 := ft_elem29
  have i1 := ft_impl27
  have mK := ft_mKind
  have mE := ft_mElem
  have mI := ft_mImpl
  have htl := lt_of_heap ht
  have hb2 : Below w.heap.size w ((w.alloc (.cells #[.pointer (some ⟨t, 0, none⟩)] 29)).alloc (.cells #[.pointer (some ⟨1, 29, none⟩), .pointer (some ⟨w.heap.size, 0, none⟩), .int .u64 150] 56)) := ((Below.refl _ _).alloc (Nat.le_refl _) _).alloc (by simp) _
  have hT2 := (hb2.block t htl).trans ht
  have hG2 : ((w.alloc (.cells #[.pointer (some ⟨t, 0, none⟩)] 29)).alloc (.cells #[.pointer (some ⟨1, 29, none⟩), .pointer (some ⟨w.heap.size, 0, none⟩), .int .u64 150] 56)).cell? ⟨0, 0, none⟩ = some (.iface 71 (.agg #[.pointer (some ⟨1, 25, none⟩)])) := hG.below hb2
  have ha2 : ((w.alloc (.cells #[.pointer (some ⟨t, 0, none⟩)] 29)).alloc (.cells #[.pointer (some ⟨1, 29, none⟩), .pointer (some ⟨w.heap.size, 0, none⟩), .int .u64 150] 56)).cell? ⟨w.heap.size, 0, none⟩ = some (.pointer (some ⟨t, 0, none⟩)) := by
    rw [World.cell?_alloc_lt _ _ ⟨w.heap.size, 0, none⟩ (by simp)]; exact (cells_at (heap_alloc_new w _) 0).trans rfl
  have n8 := ft_isNil29 ⟨w.heap.size, 0, none⟩ ⟨t, 0, none⟩ _ ha2
  have HC := Lib.hid (hc _ w.heap.size hb2 ha2 hT2)
  have HB2 := Lib.hid hb2
  clear hc ht htl hb2 hT2 ha2 hG
  go_enter Tryd.func9, Tryd.ntmps9
  go_wp2_with fail
  refine HC.out.mono ?_
  rintro e w3 hp
  obtain ⟨b, rfl⟩ := hp.bool
  have HP := Lib.hid (hp.from HB2.out)
  clear hp hG2 n8
  go_wp2
  go_ret
  exact HP.out

set_option maxHeartbeats 1000000 in
set_option maxRecDepth 100000 in
theorem As37_from (S : TypeId) (x : Value) (t : Nat) (o : Option Value) (old : Value) (w : World) (hG : Gl w) (ht : w.heap[t]? = some (.cells #[old] 37 (0, 0)))
    (hc : ∀ (W : World) (a : Nat), Below w.heap.size w W → W.cell? ⟨a, 0, none⟩ = some (.pointer (some ⟨t, 0, none⟩)) → W.heap[t]? = some (.cells #[old] 37 (0, 0)) →
      Calls Tryd.prog 26 #[.iface S x, .iface 38 (.pointer (some ⟨t, 0, none⟩)), .agg #[.pointer (some ⟨1, 38, none⟩), .pointer (some ⟨a, 0, none⟩), .int .u64 150], .iface 71 (.agg #[.pointer (some ⟨1, 37, none⟩)])] W fun e W' => AsPost 37 t o W e W') :
    Calls Tryd.prog 9 #[.iface S x, .iface 38 (.pointer (some ⟨t, 0, none⟩))] w fun e w' => AsPost 37 t o w e w' := by
  have h23 := @run_callFunc_extern Tryd.prog 23 _ (fun args => ReflectliteValue.unpack (args.getD 0 (.tuple #[]))) Tryd.func23 (by kernel_rfl) (by kernel_rfl) (by kernel_rfl) (by kernel_rfl)
  have h24 := @run_callFunc_extern Tryd.prog 24 _ (ReflectliteValue.methodAny (ReflectliteValue.valueError "reflectlite.Value.Type" 0) (fun t _ _ _ => ReflectliteType.toType t)) Tryd.func24 (by kernel_rfl) (by kernel_rfl) (by kernel_rfl) (by kernel_rfl)
  have h25 := @run_callFunc_extern Tryd.prog 25 _ (ReflectliteValue.method (ReflectliteValue.valueError "reflectlite.Value.IsNil" 0) ReflectliteValue.isNil) Tryd.func25 (by kernel_rfl) (by kernel_rfl) (by kernel_rfl) (by kernel_rfl)
  have h46 := @run_callFunc_extern Tryd.prog 46 _ (ReflectliteType.abiMethod fun t => do pure (.int .u8 (← Rtype.kind t))) Tryd.func46 (by kernel_rfl) (by kernel_rfl) (by kernel_rfl) (by kernel_rfl)
  have h56 := @run_callFunc_extern Tryd.prog 56 _ (ReflectliteType.method ReflectliteType.elem) Tryd.func56 (by kernel_rfl) (by kernel_rfl) (by kernel_rfl) (by kernel_rfl)
  have h57 := @run_callFunc_extern Tryd.prog 57 _ (ReflectliteType.relation "Implements" ReflectliteType.implements_) Tryd.func57 (by kernel_rfl) (by kernel_rfl) (by kernel_rfl) (by kernel_rfl)
  have v1 := ft_valueOf38
  have y1 := ft_type38
  have k1 := ft_kind38
  have k2 := ft_kind37
  have e1 := ft_elem38
  have i1 := ft_impl37
  have mK := ft_mKind
  have mE := ft_mElem
  have mI := ft_mImpl
  have htl := lt_of_heap ht
  have hb2 : Below w.heap.size w ((w.alloc (.cells #[.pointer (some ⟨t, 0, none⟩)] 38)).alloc (.cells #[.pointer (some ⟨1, 38, none⟩), .pointer (some ⟨w.heap.size, 0, none⟩), .int .u64 150] 56)) := ((Below.refl _ _).alloc (Nat.le_refl _) _).alloc (by simp) _
  have hT2 := (hb2.block t htl).trans ht
  have hG2 : ((w.alloc (.cells #[.pointer (some ⟨t, 0, none⟩)] 38)).alloc (.cells #[.pointer (some ⟨1, 38, none⟩), .pointer (some ⟨w.heap.size, 0, none⟩), .int .u64 150] 56)).cell? ⟨0, 0, none⟩ = some (.iface 71 (.agg #[.pointer (some ⟨1, 25, none⟩)])) := hG.below hb2
  have ha2 : ((w.alloc (.cells #[.pointer (some ⟨t, 0, none⟩)] 38)).alloc (.cells #[.pointer (some ⟨1, 38, none⟩), .pointer (some ⟨w.heap.size, 0, none⟩), .int .u64 150] 56)).cell? ⟨w.heap.size, 0, none⟩ = some (.pointer (some ⟨t, 0, none⟩)) := by
    rw [World.cell?_alloc_lt _ _ ⟨w.heap.size, 0, none⟩ (by simp)]; exact (cells_at (heap_alloc_new w _) 0).trans rfl
  have n8 := ft_isNil38 ⟨w.heap.size, 0, none⟩ ⟨t, 0, none⟩ _ ha2
  have HC := Lib.hid (hc _ w.heap.size hb2 ha2 hT2)
  have HB2 := Lib.hid hb2
  clear hc ht htl hb2 hT2 ha2 hG
  go_enter Tryd.func9, Tryd.ntmps9
  go_wp2_with fail
  refine HC.out.mono ?_
  rintro e w3 hp
  obtain ⟨b, rfl⟩ := hp.bool
  have HP := Lib.hid (hp.from HB2.out)
  clear hp hG2 n8
  go_wp2
  go_ret
  exact HP.out

theorem ft_comp37 (w : World) : ((Extern.ReflectliteType.method fun t => do Go.Extern.Rtype.noPackHeld "Comparable" t; (fun a => Value.bool a.comparable) <$> typeInfo t) #[.agg #[.pointer (some ⟨1, 37, none⟩)]]).run Tryd.prog w = .ok (.bool true) w := by kernel_rfl
theorem ft_comp67 (w : World) : ((Extern.ReflectliteType.method fun t => do Go.Extern.Rtype.noPackHeld "Comparable" t; (fun a => Value.bool a.comparable) <$> typeInfo t) #[.agg #[.pointer (some ⟨1, 67, none⟩)]]).run Tryd.prog w = .ok (.bool true) w := by kernel_rfl
theorem ft_ne (S T : TypeId) (x y : Value) (h : S ≠ T) (w : World) : (binOp .eql 25 (.iface S x) (.iface T y)).run Tryd.prog w = .ok (.bool false) w := run_eql_iface_types S T x y Tryd.underlying25 h w
theorem ft_info37 : (Tryd.prog.info? 37).map (·.comparable) = some true := by kernel_rfl
theorem ft_eq (k c : Int) (w : World) : (binOp .eql 25 (.iface 37 (.int .i64 k)) (.iface 37 (.int .i64 c))).run Tryd.prog w = .ok (.bool (k == c)) w := by
  obtain ⟨i, hi, hcmp⟩ := Option.map_eq_some_iff.1 ft_info37
  have h : ∀ d : Nat, (Op.equalIn (d + 2) 25 (.iface 37 (.int .i64 k)) (.iface 37 (.int .i64 c))).run Tryd.prog w = .ok (k == c) w := fun d => by
    simp [Op.equalIn, run_underlying Tryd.underlying25, run_underlying Tryd.underlying37, typeInfo, hi, hcmp]
  simp only [binOp]
  simp [Op.equal, Op.maxDepth, h 9998]
/-- whether it is this number -/
def Leaf.isNo (L : Leaf) (c : Int) : Bool := match L with
  | .errno k => k == c
  | _ => false
set_option maxHeartbeats 1000000 in
set_option maxRecDepth 100000 in
theorem is37_any (L : Leaf) (l : List (List UInt8 × List UInt8)) (v : Value) (c : Int) (w : World) (hv : Er w L l v) (hn : v ≠ .nilIface) :
    Calls Tryd.prog 29 #[v, .iface 37 (.int .i64 c), .bool true] w fun ev w' => ev = .returned (.bool (L.isNo c)) ∧ w' = w := by
  have mU := ft_mUnw
  have HV := Lib.hid hv
  have HN := Lib.hid hn
  clear hv hn
  generalize hr : L.isNo c = r
  have HR := Lib.hid hr
  clear hr
  go_enter Tryd.func29, Tryd.ntmps29
  go_wp2_with fail
  go_loopg [0] l.length (fun n u wx => ∃ l', l'.length = n ∧ Er w L l' u ∧ u ≠ .nilIface ∧ wx = w)
  case atStart => exact ⟨l, rfl, HV.out, HN.out, rfl⟩
  case round =>
    obtain ⟨l', hl', hE, hu, rfl⟩ := hrel
    cases l' with
    | nil =>
      have hu2 : u0 = L.val := hE
      clear hE hl'
      cases L with
      | none => exact absurd hu2 hu
      | errno k =>
        replace hu2 : u0 = .iface 37 (.int .i64 k) := hu2
        subst hu2
        have n1 := ft_is37
        have n2 := ft_unw37
        have n3 := ft_unws37
        have n4 := ft_eq k c
        clear hu HN HV
        by_cases hk : k = c
        · subst hk
          have h2 : r = true := HR.out.symm.trans (show (k == k) = true by simp)
          subst h2
          have n5 : (k == k) = true := by simp
          clear HR
          go_wp2
          go_ret
          exact ⟨rfl, rfl⟩
        · have h2 : r = false := HR.out.symm.trans (show (k == c) = false by simp [hk])
          subst h2
          have n5 : (k == c) = false := by simp [hk]
          clear HR hk
          go_wp2
          go_ret
          exact ⟨rfl, rfl⟩
      | other b =>
        replace hu2 : u0 = .iface 67 (.pointer (some ⟨b, 0, none⟩)) := hu2
        subst hu2
        have n1 := ft_is67
        have n2 := ft_unw67
        have n3 := ft_unws67
        have n4 := ft_ne 67 37 (.pointer (some ⟨b, 0, none⟩)) (.int .i64 c) (by decide)
        have h2 : r = false := HR.out.symm.trans rfl
        subst h2
        clear hu HN HV HR
        go_wp2
        go_ret
        exact ⟨rfl, rfl⟩
    | cons x l'' =>
      obtain ⟨b, inner, rfl, hb, hi⟩ := hE
      have n1 := ft_is27
      have n2 := ft_unw27
      have n4 := ft_ne 27 37 (.pointer (some ⟨b, 0, none⟩)) (.int .i64 c) (by decide)
      have HI := Lib.hid hi
      have HL := Lib.hid hl'
      have HUn := Lib.hid (unwrap_any b x.1 x.2 inner wr hb)
      clear hu HN hi hl' hb HV
      go_wp2_with fail
      refine HUn.out.mono ?_
      rintro e w2 ⟨rfl, rfl⟩
      by_cases hne : inner = .nilIface
      · have hL : r = false := by
          have hi := HI.out
          have hr := HR.out
          cases l'' with
          | nil =>
            cases L with
            | none => exact hr.symm
            | errno k => rw [hne] at hi; cases hi
            | other b => rw [hne] at hi; cases hi
          | cons y l3 => obtain ⟨_, _, h, _⟩ := hi; rw [hne] at h; cases h
        subst hne
        subst hL
        clear HI HL HUn HR
        go_wp2
        go_ret
        exact ⟨rfl, rfl⟩
      · obtain ⟨T, vv, rfl⟩ : ∃ T vv, inner = .iface T vv := by
          have hi := HI.out
          cases l'' with
          | nil =>
            cases L with
            | none => exact absurd hi hne
            | errno k => exact ⟨_, _, hi⟩
            | other b => exact ⟨_, _, hi⟩
          | cons y l3 => obtain ⟨_, _, h, _⟩ := hi; exact ⟨_, _, h⟩
        clear hne
        go_wp2_with fail
        go_roundg l''.length
        case measure => have := HL.out; simp at this; omega
        case rel => exact ⟨l'', rfl, HI.out, by simp, rfl⟩
set_option maxRecDepth 100000 in
theorem Is37_any (L : Leaf) (l : List (List UInt8 × List UInt8)) (v : Value) (c : Int) (w : World) (hv : Er w L l v) :
    Calls Tryd.prog 19 #[v, .iface 37 (.int .i64 c)] w fun ev w' => ev = .returned (.bool (L.isNo c)) ∧ w' = w := by
  by_cases hn : v = .nilIface
  · have hL : L.isNo c = false := by
      cases l with
      | nil =>
        cases L with
        | none => rfl
        | errno k => rw [hn] at hv; cases hv
        | other b => rw [hn] at hv; cases hv
      | cons y l3 => obtain ⟨_, _, h, _⟩ := hv; rw [hn] at h; cases h
    rw [hL]
    subst hn
    clear hv
    have n1 := run_eql_iface_nil_left (P := Tryd.prog) w 37 (.int .i64 c) Tryd.underlying25
    go_enter Tryd.func19, Tryd.ntmps19
    go_wp2
    go_ret
    exact ⟨rfl, rfl⟩
  · have HC := Lib.hid (is37_any L l v c w hv hn)
    obtain ⟨T, vv, rfl⟩ : ∃ T vv, v = .iface T vv := by
      cases l with
      | nil =>
        cases L with
        | none => exact absurd hv hn
        | errno k => exact ⟨_, _, hv⟩
        | other b => exact ⟨_, _, hv⟩
      | cons y l3 => obtain ⟨_, _, h, _⟩ := hv; exact ⟨_, _, h⟩
    have h28 := @run_callFunc_extern Tryd.prog 28 _ ReflectliteType.typeOf Tryd.func28 (by kernel_rfl) (by kernel_rfl) (by kernel_rfl) (by kernel_rfl)
    have h55 := @run_callFunc_extern Tryd.prog 55 _ (Extern.ReflectliteType.method fun t => do Go.Extern.Rtype.noPackHeld "Comparable" t; pure (.bool (← typeInfo t).comparable)) Tryd.func55 (by kernel_rfl) (by kernel_rfl) (by kernel_rfl) (by kernel_rfl)
    have t1 := ft_typeOf37
    have mC := ft_mComp
    have c1 := ft_comp37
    clear hv hn
    generalize L.isNo c = r at *
    go_enter Tryd.func19, Tryd.ntmps19
    go_wp2_with fail
    refine HC.out.mono ?_
    rintro e w2 ⟨rfl, rfl⟩
    go_wp2
    go_ret
    exact ⟨rfl, rfl⟩
end Go.Proofs.YtmbkcohkmedpgaaDoor
