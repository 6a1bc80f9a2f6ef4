/- fault.Code, Depth, Where, Is, Wrap; the law's said. -/
import Derived.Test.YtmbkcohkmedpgaaDoorFtFns
namespace Go.Proofs.YtmbkcohkmedpgaaDoor
open Go.RowKit

theorem Ext.hop {B : Nat} {a w w' : World} (h : Ext B a w) (hb : Below B w w') : Ext B a w' := ⟨h.1.trans hb, Nat.le_trans h.2 hb.size⟩
theorem blk_hit {w w' : World} {t b : Nat} {o : Value} {T : TypeId} {cs : Array Value} (hT : T ≠ 31) (ht : w.heap[t]? = some (.cells #[o] T (0, 0))) (hc : Chg (fun k => k = t) w w') (hb : w.heap[b]? = some (.cells cs 31 (0, 0))) : w'.heap[b]? = some (.cells cs 31 (0, 0)) :=
  (hc.block b (lt_of_heap hb) (fun e => by
      have e' : b = t := e
      subst e'
      rw [hb] at ht
      injection ht with ht
      injection ht with _ h5 _
      exact hT h5.symm)).trans hb
theorem Er.iface {w : World} {L : Leaf} {l : List (List UInt8 × List UInt8)} {v : Value} (hv : Er w L l v) (hn : v ≠ .nilIface) : ∃ S x, v = .iface S x := by
  cases l with
  | nil =>
    cases L with
    | none => exact absurd hv hn
    | errno k => exact ⟨_, _, hv⟩
    | other b => exact ⟨_, _, hv⟩
  | cons y l3 => obtain ⟨_, _, h, _⟩ := hv; exact ⟨_, _, h⟩
theorem Er.nil {w : World} {L : Leaf} {l : List (List UInt8 × List UInt8)} (hv : Er w L l .nilIface) : l = [] ∧ L = .none := by
  cases l with
  | nil =>
    cases L with
    | none => exact ⟨rfl, rfl⟩
    | errno k => cases hv
    | other b => cases hv
  | cons y l3 => obtain ⟨_, _, h, _⟩ := hv; cases h
def Leaf.code (L : Leaf) (l : List (List UInt8 × List UInt8)) : Int :=
  match L with
  | .errno k => k
  | .none => if l = [] then 0 else 99
  | .other _ => 99
set_option maxHeartbeats 1000000 in
set_option maxRecDepth 100000 in
theorem code_any (L : Leaf) (l : List (List UInt8 × List UInt8)) (v : Value) (w : World) (hG : Gl w) (hv : Er w L l v) :
    Calls Tryd.prog 14 #[v] w fun e w' => e = .returned (.int .i64 (L.code l)) ∧ Below w.heap.size w w' := by
  have hE := (Ext.refl w).alloc (.cells #[.int .i64 0] 37)
  by_cases hn : v = .nilIface
  · subst hn
    obtain ⟨rfl, rfl⟩ := hv.nil
    clear hv hG
    go_enter Tryd.func14, Tryd.ntmps14
    go_wp2
    go_ret
    exact ⟨rfl, hE.1⟩
  · obtain ⟨S, x, rfl⟩ := hv.iface hn
    have hb1 : Below w.heap.size w (w.alloc (.cells #[.int .i64 0] 37)) := hE.1
    have ht : (w.alloc (.cells #[.int .i64 0] 37)).heap[w.heap.size]? = some (.cells #[.int .i64 0] 37 (0, 0)) := heap_alloc_new w _
    have hv1 := hv.below hb1
    have HC := Lib.hid (As37_from S x w.heap.size L.num (.int .i64 0) _ (hG.below hb1) ht (fun W a hb ha ht2 => as37_any L l (.iface S x) w.heap.size a (.int .i64 0) W (hv1.below hb) hn ha ht2))
    have hlt := lt_of_heap ht
    have HE := Lib.hid (And.intro hE hlt)
    have h99 : L = .none → L.code l = 99 := by
      rintro rfl
      cases l with
      | nil => exact absurd hv hn
      | cons y l3 => rfl
    have HN := Lib.hid h99
    clear h99
    clear hv hv1 hn ht hlt hE hb1 hG
    generalize hcd : L.code l = cd
    have HD := Lib.hid hcd
    clear hcd
    go_enter Tryd.func14, Tryd.ntmps14
    go_wp2_with fail
    refine HC.out.mono ?_
    rintro e w2 hp
    obtain ⟨hE, hlt⟩ := HE.out
    cases L with
    | none =>
      obtain ⟨rfl, hb2⟩ := hp
      have hE2 := hE.step hb2
      have h2 : cd = 99 := HD.out.symm.trans (HN.out rfl)
      subst h2
      go_wp2
      go_ret
      exact ⟨rfl, hE2.1⟩
    | other b =>
      obtain ⟨rfl, hb2⟩ := hp
      have hE2 := hE.step hb2
      have h2 : cd = 99 := HD.out.symm
      subst h2
      go_wp2
      go_ret
      exact ⟨rfl, hE2.1⟩
    | errno k =>
      obtain ⟨rfl, hc2, ht2⟩ := hp
      have hE2 := hE.hop (hc2.below hE.2 (fun q hq h => by have h' : q = w.heap.size := h; omega))
      have c0 := cells_at ht2 0
      simp only [List.getElem?_toArray, List.getElem?_cons_zero] at c0
      have h2 : cd = k := HD.out.symm
      subst h2
      go_wp2
      go_ret
      exact ⟨rfl, hE2.1⟩

set_option maxHeartbeats 1000000 in
set_option maxRecDepth 100000 in
theorem depth_any (L : Leaf) (l : List (List UInt8 × List UInt8)) (v : Value) (w : World) (hG : Gl w) (hv : Er w L l v) (hl : l.length ≤ 1000000) :
    Calls Tryd.prog 11 #[v] w fun e w' => e = .returned (.int .i64 (l.length : Int)) ∧ Below w.heap.size w w' := by
  have hE := (Ext.refl w).alloc (.cells #[.pointer none] 27)
  have hb1 : Below w.heap.size w (w.alloc (.cells #[.pointer none] 27)) := hE.1
  have ht : (w.alloc (.cells #[.pointer none] 27)).heap[w.heap.size]? = some (.cells #[.pointer none] 27 (0, 0)) := heap_alloc_new w _
  have hv1 := hv.below hb1
  have hG1 := hG.below hb1
  obtain ⟨t, hte⟩ : ∃ t, t = w.heap.size := ⟨_, rfl⟩
  have ht0 : t ≠ 0 := by have := hG.lt; omega
  obtain ⟨W, hW⟩ : ∃ W, W = w.alloc (.cells #[.pointer none] 27) := ⟨_, rfl⟩
  rw [← hW] at hE ht hv1 hG1
  rw [← hte] at ht hE
  have HW := Lib.hid (And.intro hte hW)
  have HV := Lib.hid hv1
  have HL := Lib.hid (And.intro hl ht0)
  have HT := Lib.hid ht
  have HG := Lib.hid hG1
  clear hv hv1 hG hG1 hb1 hW hte hl ht0 ht
  go_enter Tryd.func11, Tryd.ntmps11
  go_wp2_with fail
  rw [← HW.out.1, ← HW.out.2]
  go_loopg [0, 3] l.length (fun n u c wx => ∃ l' j old, l'.length = n ∧ j + l'.length = l.length ∧ Er wx L l' u ∧ c = .int .i64 (j : Int) ∧ wx.heap[t]? = some (.cells #[old] 27 (0, 0)) ∧ Ext t w wx ∧ Gl wx)
  case atStart => exact ⟨l, 0, _, rfl, by omega, HV.out, rfl, HT.out, hE, HG.out⟩
  case round =>
    obtain ⟨l', j, old, hl', hj, hE3, rfl, ht, hEx, hG⟩ := hrel
    clear HV HT HG hE
    have HJ := Lib.hid (And.intro hl' hj)
    have HX := Lib.hid hEx
    clear hl' hj hEx
    cases l' with
    | nil =>
      have hjl : j = l.length := by have := HJ.out.2; simpa using this
      by_cases hn : u0 = .nilIface
      · subst hn
        clear hE3 ht hG
        subst hjl
        go_wp2_with fail
        refine (As_nil _ _).mono ?_
        rintro e w2 ⟨rfl, rfl⟩
        go_wp2
        go_ret
        exact ⟨rfl, by have := HX.out.1; rwa [HW.out.1] at this⟩
      · have hu : u0 = L.val := hE3
        have HC : Hid (Calls Tryd.prog 9 #[u0, .iface 29 (.pointer (some ⟨t, 0, none⟩))] wr fun e w' => AsPost 27 t Option.none wr e w') := by
          cases L with
          | none => exact absurd hu hn
          | errno k => rw [hu]; exact Lib.hid (As27_from 37 _ t Option.none old wr hG ht (fun W a hb ha ht2 => (as27_miss37 k t a W).mono fun e w' h => h))
          | other b => rw [hu]; exact Lib.hid (As27_from 67 _ t Option.none old wr hG ht (fun W a hb ha ht2 => (as27_miss67 b t a W).mono fun e w' h => h))
        clear hE3 ht hG hu hn
        subst hjl
        go_wp2_with fail
        refine HC.out.mono ?_
        rintro e w2 ⟨rfl, hb2⟩
        have HX3 := Lib.hid (HX.out.step hb2)
        clear hb2
        go_wp2
        go_ret
        exact ⟨rfl, by have := HX3.out.1; rwa [HW.out.1] at this⟩
    | cons x l2 =>
      obtain ⟨b, inner, rfl, hb, hi⟩ := hE3
      have HC := Lib.hid (As27_from 27 (.pointer (some ⟨b, 0, none⟩)) t (some (.pointer (some ⟨b, 0, none⟩))) old wr hG ht (fun W a hb ha ht2 => (as27_hit b t a old W ha ht2).mono fun e w' h => h))
      have ht0 := HL.out.2
      have HI := Lib.hid (And.intro hi (And.intro hb (And.intro ht (And.intro hG ht0))))
      have hjw : IntKind.i64.wrap ((j : Int) + 1) = ((j + 1 : Nat) : Int) := by
        have h1 := HJ.out.2; have h2 := HL.out.1
        rw [IntWalk.i64_in _ (by omega)]; omega
      have hjw2 := Lib.hid hjw
      clear hi hb ht hG ht0 hjw
      go_wp2_with fail
      refine HC.out.mono ?_
      rintro e w2 ⟨rfl, hc2, ht2⟩
      obtain ⟨hi, hb, ht, hG, ht0⟩ := HI.out
      have hi2 := hi.hit (by decide) ht hc2
      have hb2 := blk_hit (by decide) ht hc2 hb
      have hG2 := hG.chg hc2 ht0
      have HX2 := Lib.hid (HX.out.hop (hc2.below HX.out.2 (fun q hq h => by have h' : q = t := h; omega)))
      have c0 := cells_at ht2 0
      simp only [List.getElem?_toArray, List.getElem?_cons_zero] at c0
      have HI2 := Lib.hid (And.intro hi2 (And.intro ht2 hG2))
      have HU := Lib.hid (unwrap_any b x.1 x.2 inner w2 hb2)
      have hjw := hjw2.out
      clear hi hb ht hG hi2 hb2 hc2 ht2 hG2 hjw2 HI HC ht0
      go_wp2_with fail
      refine HU.out.mono ?_
      rintro e w3 ⟨rfl, rfl⟩
      clear HU c0
      go_wp2_with fail
      go_roundg l2.length
      case measure => have := HJ.out.1; simp at this; omega
      case rel => exact ⟨l2, j + 1, _, rfl, by have := HJ.out.2; simp at this; omega, HI2.out.1, by go_num, HI2.out.2.1, HX2.out, HI2.out.2.2⟩
end Go.Proofs.YtmbkcohkmedpgaaDoor
