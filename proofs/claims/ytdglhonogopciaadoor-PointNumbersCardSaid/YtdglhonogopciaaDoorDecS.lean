/- A value that is read, field by field, into a block: what stands between two reads. -/
import Derived.Test.YtdglhonogopciaaDoorCodecUse
import Derived.Test.YtdglhonogopciaaDoorRef4
import Derived.Test.YtdglhonogopciaaDoorTools2
namespace Go.Proofs.YtdglhonogopciaaDoor
open Go.RowKit

structure DecI (R : World → List UInt8 × Nat → Prop) (TO TA : TypeId) (w : World) (H q O A : Nat) (C K Z : Array Value) (T : List UInt8 × Nat) (wx : World) : Prop where
  ext : Ext H w wx
  rd : R wx T
  len : T.1.length ≤ big
  o : wx.heap[O]? = some (.cells C TO (0, 0))
  a : wx.heap[A]? = some (.cells K TA (0, 0))
  z : wx.heap[H]? = some (.cells Z TO (0, 0))
  qO : O ≠ q
  qA : A ≠ q
  qH : H < q
  AO : A ≠ O
  HO : H < O
  rset : ∀ W i v T, R W T → R (W.setCell ⟨O, i, none⟩ v) T
variable {R : World → List UInt8 × Nat → Prop} {TO TA : TypeId} {w : World} {H q O A : Nat} {C K Z : Array Value} {T : List UInt8 × Nat} {wx : World}
theorem lt_of_heap {w : World} {b : Nat} {o : Obj} (h : w.heap[b]? = some o) : b < w.heap.size := (Array.getElem?_eq_some_iff.1 h).1
theorem DecI.next (h : DecI R TO TA w H q O A C K Z T wx) {T' : List UInt8 × Nat} {w' : World} (hr : R w' T') (hc : Chg (fun k => k = q) wx w') (hl : T'.1.length ≤ T.1.length) : DecI R TO TA w H q O A C K Z T' w' where
  ext := h.ext.to (hc.below h.ext.2 (fun _ _ hk => by subst hk; exact Nat.le_of_lt h.qH))
  rd := hr
  len := Nat.le_trans hl h.len
  o := (hc.block O (lt_of_heap h.o) h.qO).trans h.o
  a := (hc.block A (lt_of_heap h.a) h.qA).trans h.a
  z := (hc.block H (lt_of_heap h.z) (Nat.ne_of_lt h.qH)).trans h.z
  qO := h.qO
  qA := h.qA
  qH := h.qH
  AO := h.AO
  HO := h.HO
  rset := h.rset
theorem DecI.set (h : DecI R TO TA w H q O A C K Z T wx) (i : Nat) (v : Value) {C' : Array Value} (hC : C.setIfInBounds i v = C') : DecI R TO TA w H q O A C' K Z T (wx.setCell ⟨O, i, none⟩ v) where
  ext := h.ext.setCell (p := ⟨O, i, none⟩) (Nat.le_of_lt h.HO) v
  rd := h.rset _ _ _ _ h.rd
  len := h.len
  o := by rw [← hC]; exact cells_set h.o
  a := cells_far h.a h.AO
  z := cells_far h.z (Nat.ne_of_lt h.HO)
  qO := h.qO
  qA := h.qA
  qH := h.qH
  AO := h.AO
  HO := h.HO
  rset := h.rset
theorem DecI.cell (h : DecI R TO TA w H q O A C K Z T wx) (i : Nat) : wx.cell? ⟨O, i, none⟩ = C[i]? := cells_at h.o i
theorem DecI.flag (h : DecI R TO TA w H q O A C K Z T wx) (i : Nat) : wx.cell? ⟨A, i, none⟩ = K[i]? := cells_at h.a i
theorem frozen_at {w : World} {b : Nat} {cs : Array Value} {t : TypeId} (h : w.heap[b]? = some (.cells cs t (0, 0))) (i : Nat) : w.frozen? ⟨b, i, none⟩ = false := by
  simp [World.frozen?, h]
theorem DecI.free (h : DecI R TO TA w H q O A C K Z T wx) (i : Nat) : wx.frozen? ⟨O, i, none⟩ = false := frozen_at h.o i
/-- over a call that makes memory alone -/
theorem DecI.below (h : DecI R TO TA w H q O A C K Z T wx) {w' : World} (hb : Below wx.heap.size wx w') (hr : R w' T) : DecI R TO TA w H q O A C K Z T w' :=
  h.next hr (Chg.of_below hb _) (Nat.le_refl _)

theorem Own.setOther {w : World} {B : Nat} {v : Value} {xs : List UInt8} (h : Own w B v xs) {p : Addr} (hp : ∀ b, v.ownBlock = some b → b ≠ p.block) (u : Value) : Own (w.setCell p u) B v xs := by
  rcases h.parts with ⟨rfl, rfl⟩ | ⟨g, cap, rfl, hB, hr⟩
  · exact Own.nil _ _
  · exact Own.of_row (hr.setOther (hp g rfl) u) hB
/-- codec's reader -/
def RdR (p q : Nat) (rb : Option Nat) (W : World) (T : List UInt8 × Nat) : Prop := Rd W p q rb T.1 T.2
theorem RdR.set {p q O : Nat} {rb : Option Nat} (h1 : O ≠ q) (h2 : rb ≠ some O) : ∀ W i v T, RdR p q rb W T → RdR p q rb (W.setCell ⟨O, i, none⟩ v) T := fun W i v T h => by
  refine Rd.chg (S := fun k => k = O) h ((Chg.refl (fun k => k = O) W).setCell (p := ⟨O, i, none⟩) (fun _ => rfl) v) ?_
  intro k hk hO
  subst hO
  rcases hk with hk | hk
  · exact h1 hk
  · exact h2 hk
/-- a new reader, and where its row lies -/
theorem rnew_lt (a : Option Addr) (len cap : Nat) (xs : List UInt8) (w : World) (h : Bs w a len cap xs) (hl : len ≤ big) :
    Calls Tryd.prog 39 #[.slice a len cap] w fun e w' => ∃ q rb, e = .returned (.pointer (some ⟨q, 0, none⟩)) ∧ Rd w' w.heap.size q rb xs 0 ∧ Below w.heap.size w w' ∧ ∀ k, rb = some k → k < w'.heap.size := by
  go_enter Tryd.func39, Tryd.ntmps39
  go_wp2_with fail
  refine (clone_any a len cap xs _ h hl).mono ?_
  rintro e w1 ⟨v, rfl, ho, hbl⟩
  have hs := hbl.size
  rcases ho.parts with ⟨rfl, rfl⟩ | ⟨g, c', rfl, hg, hr⟩
  · go_wp2_with fail
    go_ret
    exact ⟨_, none, rfl, ⟨hs, none, 0, heap_alloc_new w1 _, Bs.nil _, rfl, by simp, by simp⟩, ((Ext.refl w).step hbl |>.alloc _).1, by simp⟩
  · have hrl := hr.lt
    go_wp2_with fail
    go_ret
    exact ⟨_, some g, rfl, ⟨hs, _, c', heap_alloc_new w1 _, (hr.alloc _).bs, rfl, by simp; omega, by simp; omega⟩, ((Ext.refl w).step hbl |>.alloc _).1, by simp; omega⟩
end Go.Proofs.YtdglhonogopciaaDoor
