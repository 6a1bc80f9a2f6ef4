/- A reply that is read, part by part, into a block: what stands between two reads. -/
import Derived.Test.YtphjdlckoddgmaaRpRef
import Derived.Test.YtphjdlckoddgmaaOpDec
namespace Go.Proofs.Ytphjdlckoddgmaa
open Go.RowKit

/-- a reply's cells, its bytes and its names values -/
def rpV (r : Rp) (dv nv : Value) : Array Value := #[.int .i64 r.err, .int .i64 r.n, dv, nv, .int .i64 r.node.id, .int .i64 r.node.kind, .int .i64 r.node.links, .int .i64 r.node.size, .int .u64 (r.node.til : Int), .bool r.node.closed]
/-- what DecodeReply answers, its bytes and its names -/
def RpPost (xs : List UInt8) (B : Nat) (e : Ending) (w' : World) : Prop :=
  ∃ dv nv, e = .returned (.tuple #[.agg (rpV (rpDec xs).1 dv nv), .int .i64 ((rpDec xs).2 : Nat)]) ∧ Own w' B dv (rpDec xs).1.dat ∧ OwnS w' B nv (rpDec xs).1.names

structure RpI (R : World → List UInt8 × Nat → Prop) (w : World) (H q O : Nat) (r : Rp) (dv nv : Value) (T : List UInt8 × Nat) (wx : World) : Prop where
  ext : Ext H w wx
  rd : R wx T
  len : T.1.length ≤ big
  o : wx.heap[O]? = some (.cells (rpV r dv nv) 45 (0, 0))
  z : wx.heap[H]? = some (.cells (rpV zeroRp zv zv) 45 (0, 0))
  qH : H < q
  qO : q < O
  dat : Own wx H dv r.dat
  dO : ∀ k, dv.ownBlock = some k → q < k ∧ k < O
  nam : OwnS wx H nv r.names
  nO : ∀ k, nv.ownBlock = some k → O < k
  far : ∀ W W' T, O < W.heap.size → Chg (fun k => O ≤ k) W W' → R W T → R W' T
section
variable {R : World → List UInt8 × Nat → Prop} {w : World} {H q O : Nat} {r : Rp} {dv nv : Value} {T : List UInt8 × Nat} {wx : World}
theorem RpI.lt (h : RpI R w H q O r dv nv T wx) : O < wx.heap.size := lt_of_heap h.o
/-- over a call of the reader -/
theorem RpI.read (h : RpI R w H q O r dv nv T wx) {T' : List UInt8 × Nat} {w' : World} (hr : R w' T') (hc : Chg (fun k => k = q) wx w') (hl : T'.1.length ≤ T.1.length) : RpI R w H q O r dv nv T' w' where
  ext := h.ext.to (hc.below h.ext.2 (fun _ _ hk => by subst hk; exact Nat.le_of_lt h.qH))
  rd := hr
  len := Nat.le_trans hl h.len
  o := (hc.block O (lt_of_heap h.o) (Nat.ne_of_gt h.qO)).trans h.o
  z := (hc.block H (lt_of_heap h.z) (Nat.ne_of_lt h.qH)).trans h.z
  qH := h.qH
  qO := h.qO
  dat := hc.own h.dat (fun k hk => Nat.ne_of_gt (h.dO k hk).1)
  dO := h.dO
  nam := h.nam.chg hc (fun k hk => Nat.ne_of_gt (Nat.lt_trans h.qO (h.nO k hk)))
  nO := h.nO
  far := h.far
/-- over a change behind the block -/
theorem RpI.chg (h : RpI R w H q O r dv nv T wx) {w' : World} (hc : Chg (fun k => O < k) wx w') (hn : OwnS w' H nv r.names) : RpI R w H q O r dv nv T w' where
  ext := h.ext.to (hc.below h.ext.2 (fun _ _ hk => Nat.le_of_lt (Nat.lt_trans h.qH (Nat.lt_trans h.qO hk))))
  rd := h.far _ _ _ h.lt (hc.mono (fun _ _ hk => Nat.le_of_lt hk)) h.rd
  len := h.len
  o := (hc.block O (lt_of_heap h.o) (Nat.lt_irrefl O)).trans h.o
  z := (hc.block H (lt_of_heap h.z) (Nat.not_lt.2 (Nat.le_of_lt (Nat.lt_trans h.qH h.qO)))).trans h.z
  qH := h.qH
  qO := h.qO
  dat := hc.own h.dat (fun k hk => Nat.not_lt.2 (Nat.le_of_lt (h.dO k hk).2))
  dO := h.dO
  nam := hn
  nO := h.nO
  far := h.far
theorem RpI.below (h : RpI R w H q O r dv nv T wx) {w' : World} (hb : Below wx.heap.size wx w') : RpI R w H q O r dv nv T w' :=
  h.chg (Chg.of_below hb _) (h.nam.below hb)
/-- stores into the block -/
theorem RpI.set (h : RpI R w H q O r dv nv T wx) (i : Nat) (v : Value) {r' : Rp} {nv' : Value} (hC : (rpV r dv nv).setIfInBounds i v = rpV r' dv nv') (hd : r'.dat = r.dat) (hn : OwnS wx H nv' r'.names) (hO : ∀ k, nv'.ownBlock = some k → O < k) :
    RpI R w H q O r' dv nv' T (wx.setCell ⟨O, i, none⟩ v) where
  ext := h.ext.setCell (p := ⟨O, i, none⟩) (Nat.le_of_lt (Nat.lt_trans h.qH h.qO)) v
  rd := h.far _ _ _ h.lt ((Chg.refl _ wx).setCell (p := ⟨O, i, none⟩) (fun _ => Nat.le_refl O) v) h.rd
  len := h.len
  o := by rw [← hC]; exact cells_set h.o
  z := cells_far h.z (Nat.ne_of_lt (Nat.lt_trans h.qH h.qO))
  qH := h.qH
  qO := h.qO
  dat := by rw [hd]; exact h.dat.setOther (p := ⟨O, i, none⟩) (fun b hb => Nat.ne_of_lt (h.dO b hb).2) v
  dO := h.dO
  nam := hn.setOther (p := ⟨O, i, none⟩) (fun b hb => Nat.ne_of_gt (hO b hb)) v
  nO := hO
  far := h.far
/-- one more name -/
theorem RpI.name (h : RpI R w H q O r dv nv T wx) (x : List UInt8) {v' : Value} {w2 : World} (h1 : OwnS w2 H v' (r.names ++ [x])) (h2 : (wx.alloc (.cells #[.string (strOf x)] TST)).grownBy w2 nv.ownBlock) (h3 : v'.ownBlock = nv.ownBlock ∨ v'.ownBlock = some (wx.heap.size + 1)) :
    RpI R w H q O { r with names := r.names ++ [x] } dv v' T (w2.setCell ⟨O, 3, none⟩ v') := by
  have hc : Chg (fun k => O < k) wx w2 := ((Chg.refl (fun k => O < k) wx).alloc _).grown h2 (fun k _ hk => h.nO k hk)
  have hO : ∀ k, v'.ownBlock = some k → O < k := fun k hk => by
    rcases h3 with h3 | h3
    · exact h.nO k (by rw [← h3]; exact hk)
    · rw [h3] at hk; injection hk with hk; have := h.lt; omega
  have hlt := Nat.lt_of_lt_of_le h.lt hc.size
  exact {
    ext := (h.ext.to (hc.below h.ext.2 (fun _ _ hk => Nat.le_of_lt (Nat.lt_trans h.qH (Nat.lt_trans h.qO hk))))).setCell (p := ⟨O, 3, none⟩) (Nat.le_of_lt (Nat.lt_trans h.qH h.qO)) v'
    rd := h.far _ _ _ hlt ((Chg.refl _ w2).setCell (p := ⟨O, 3, none⟩) (fun _ => Nat.le_refl O) v') (h.far _ _ _ h.lt (hc.mono (fun _ _ hk => Nat.le_of_lt hk)) h.rd)
    len := h.len
    o := by
      have := cells_set (k := 3) (y := v') ((hc.block O (lt_of_heap h.o) (Nat.lt_irrefl O)).trans h.o)
      exact this
    z := cells_far ((hc.block H (lt_of_heap h.z) (Nat.not_lt.2 (Nat.le_of_lt (Nat.lt_trans h.qH h.qO)))).trans h.z) (Nat.ne_of_lt (Nat.lt_trans h.qH h.qO))
    qH := h.qH
    qO := h.qO
    dat := (hc.own h.dat (fun k hk => Nat.not_lt.2 (Nat.le_of_lt (h.dO k hk).2))).setOther (p := ⟨O, 3, none⟩) (fun b hb => Nat.ne_of_lt (h.dO b hb).2) v'
    dO := h.dO
    nam := h1.setOther (p := ⟨O, 3, none⟩) (fun b hb => Nat.ne_of_gt (hO b hb)) v'
    nO := hO
    far := h.far }
/-- the node -/
theorem RpI.setNode (h : RpI R w H q O r dv nv T wx) (nd : Nd) :
    RpI R w H q O { r with node := nd } dv nv T ((((((wx.setCell ⟨O, 4, none⟩ (.int .i64 nd.id)).setCell ⟨O, 5, none⟩ (.int .i64 nd.kind)).setCell ⟨O, 6, none⟩ (.int .i64 nd.links)).setCell ⟨O, 7, none⟩ (.int .i64 nd.size)).setCell ⟨O, 8, none⟩ (.int .u64 (nd.til : Int))).setCell ⟨O, 9, none⟩ (.bool nd.closed)) := by
  have h1 := h.set 4 (.int .i64 nd.id) (r' := { r with node := { r.node with id := nd.id } }) rfl rfl h.nam h.nO
  have h2 := h1.set 5 (.int .i64 nd.kind) (r' := { r with node := { r.node with id := nd.id, kind := nd.kind } }) rfl rfl h1.nam h.nO
  have h3 := h2.set 6 (.int .i64 nd.links) (r' := { r with node := { r.node with id := nd.id, kind := nd.kind, links := nd.links } }) rfl rfl h2.nam h.nO
  have h4 := h3.set 7 (.int .i64 nd.size) (r' := { r with node := { r.node with id := nd.id, kind := nd.kind, links := nd.links, size := nd.size } }) rfl rfl h3.nam h.nO
  have h5 := h4.set 8 (.int .u64 (nd.til : Int)) (r' := { r with node := { r.node with id := nd.id, kind := nd.kind, links := nd.links, size := nd.size, til := nd.til } }) rfl rfl h4.nam h.nO
  exact h5.set 9 (.bool nd.closed) (r' := { r with node := nd }) rfl rfl h5.nam h.nO
end
/-- what k names are, one more -/
theorem rdNames_succ (k : Nat) (s : List UInt8 × Nat) : rdNames (k + 1) s = ((rdNames k s).1 ++ [(rdBytes (rdNames k s).2).1], (rdBytes (rdNames k s).2).2) := by
  induction k generalizing s with
  | zero => rfl
  | succ k ih =>
    rw [rdNames, ih, rdNames]
    rfl
theorem rdFlag_less (s : List UInt8 × Nat) : (rdFlag s).2.1.length ≤ s.1.length := by
  unfold rdFlag
  split
  · exact rdRaw_left s 1
  · exact rdRaw_left s 1
theorem rdRaw_within (s : List UInt8 × Nat) (n : Int) : (rdRaw s n).1.length ≤ s.1.length := by
  unfold rdRaw
  split
  · simp
  · split
    · simp
    · split
      · simp
      · simp; omega
theorem rdBytes_within (s : List UInt8 × Nat) : (rdBytes s).1.length ≤ s.1.length := Nat.le_trans (rdRaw_within _ _) (rdRaw_left s 2)
theorem rdBytes_less (s : List UInt8 × Nat) : (rdBytes s).2.1.length ≤ s.1.length := Nat.le_trans (rdRaw_left _ _) (rdRaw_left s 2)
theorem opt_true {α : Type} (z : α) (f : List UInt8 × Nat → α × (List UInt8 × Nat)) (s : List UInt8 × Nat) : opt true z f s = f s := rfl
theorem opt_false {α : Type} (z : α) (f : List UInt8 × Nat → α × (List UInt8 × Nat)) (s : List UInt8 × Nat) : opt false z f s = (z, s) := rfl
theorem rdNames_stay (k n : Nat) (s : List UInt8 × Nat) (h : (rdNames k s).2.2 ≠ 0) (hk : k ≤ n) : (rdNames n s).2.2 ≠ 0 := by
  induction n with
  | zero =>
    obtain rfl : k = 0 := by omega
    exact h
  | succ n ih =>
    by_cases hkn : k = n + 1
    · subst hkn; exact h
    · have h1 := ih (by omega)
      rw [rdNames_succ]
      simp only
      generalize rdNames n s = NK at *
      obtain ⟨L, zs, y⟩ := NK
      simp only at h1 ⊢
      rw [rdBytes_errs zs y h1]
      exact h1
end Go.Proofs.Ytphjdlckoddgmaa
