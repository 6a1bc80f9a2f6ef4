/- Small lemmas that all texts of this seat use: no program in sight. -/
import Derived.WalkKit
import Derived.Lib.Hide
import Derived.Deep.DeepFit
import Derived.BigQuiet
import Derived.Deep.RegionWith
import Derived.Lib.SlBytesConst
namespace Go.Proofs.Ytklckjmlifddjaa
open Go.RowKit

/-- What a walk is told of a slice of integers that came in: nil, or a row of 'cap' cells. -/
def IsRow (k : IntKind) (w : World) (a : Option Addr) (len cap : Nat) (zs : List Int) : Prop :=
  (a = none ∧ len = 0 ∧ cap = 0 ∧ zs = []) ∨
  ∃ x, a = some x ∧ len ≤ cap ∧ cap ≤ maxLen ∧ zs.length = cap ∧ (∀ i, i < zs.length → w.cell? (x.add i) = some (.int k (zs.getD i 0))) ∧ ∀ n ∈ zs, (Lit.int k n).wf = true

theorem ret_int {k : IntKind} {a b : Int} (h : a = b) : Ending.returned (.int k a) = .returned (.int k b) := by rw [h]
theorem ret_bool {a b : Bool} (h : a = b) : Ending.returned (.bool a) = .returned (.bool b) := by rw [h]

theorem bcell {W w1 : World} (hb : Below W.heap.size W w1) : (∀ b o, b < W.heap.size → w1.cell? ⟨b, o, none⟩ = W.cell? ⟨b, o, none⟩) ∧ (∀ b o, b < W.heap.size → w1.frozen? ⟨b, o, none⟩ = W.frozen? ⟨b, o, none⟩) :=
  ⟨fun b o h => hb.cell (p := ⟨b, o, none⟩) h, fun b o h => hb.frozen (p := ⟨b, o, none⟩) h⟩

/-- 'Below', with the size at hand: a chain of events is typed in their order -/
def Ext (B : Nat) (a w : World) : Prop := Below B a w ∧ B ≤ w.heap.size
theorem Ext.refl (w : World) : Ext w.heap.size w w := ⟨Below.refl _ _, Nat.le_refl _⟩
theorem Ext.alloc {B : Nat} {a w : World} (h : Ext B a w) (o : Obj) : Ext B a (w.alloc o) := ⟨h.1.alloc h.2 o, by have := h.2; simp; omega⟩
theorem Ext.step {B : Nat} {a w w' : World} (h : Ext B a w) (hb : Below w.heap.size w w') : Ext B a w' := ⟨h.1.trans (hb.mono h.2), Nat.le_trans h.2 hb.size⟩
theorem Ext.drew {B : Nat} {a w : World} (h : Ext B a w) : Ext B a w.drew := ⟨h.1.drew, h.2⟩
theorem Ext.setCell {B : Nat} {a w : World} (h : Ext B a w) {p : Addr} (hp : B ≤ p.block) (u : Value) : Ext B a (w.setCell p u) := ⟨h.1.setCell hp u, by have := h.2; simpa [World.setCell] using this⟩

/-- A world over w: x where x keeps all that w has, else w. For a class of worlds that the kit's quiet walk can see through. -/
noncomputable def World.over (w x : World) : World := open Classical in if Below w.heap.size w x then x else w
theorem below_over (w x : World) : Below w.heap.size w (World.over w x) := by
  unfold World.over; split
  · assumption
  · exact Below.refl _ _
theorem over_of {w x : World} (h : Below w.heap.size w x) : x = World.over w x := by unfold World.over; rw [if_pos h]
theorem over_over (w x : World) {y : World} (h : Below (World.over w x).heap.size (World.over w x) y) : ∃ m, y = World.over w m :=
  ⟨y, over_of ((below_over w x).trans (h.mono (below_over w x).size))⟩
@[simp, go_sem] theorem cell?_over (w x : World) (b o : Nat) (h : b < w.heap.size) : (World.over w x).cell? ⟨b, o, none⟩ = w.cell? ⟨b, o, none⟩ := (below_over w x).cell (p := ⟨b, o, none⟩) h
@[simp, go_sem] theorem frozen?_over (w x : World) (b o : Nat) (h : b < w.heap.size) : (World.over w x).frozen? ⟨b, o, none⟩ = w.frozen? ⟨b, o, none⟩ := (below_over w x).frozen (p := ⟨b, o, none⟩) h

/-- A region that draws its order, whose operations only read and whose callees make memory at most: one walk, in the class 'a world over w'. -/
theorem wp_region_over {P : Program} {id : Nat} {l : List Oper} {Q : Exit → Act → World → Prop} {a : Act} {w : World} (hm : P.follows .mixedOrders = true) (hB : Region.lexB .any l.toArray = true)
    (h : wpQuiet P l.toArray (fun w' => ∃ n, w' = World.over w n) (fun a' => ∀ w', (∃ n, w' = World.over w n) → Q .normal a' w') l a) : (Code.region id l.toArray true).wp P Q a w :=
  wp_region_quiet (C := fun w' => ∃ n, w' = World.over w n) hm hB ⟨_, over_of (Below.drew (Below.refl _ _))⟩ (by simpa using h)

/-- A callee's contract that makes memory at most, met in that class. -/
theorem over_below {P : Program} {f : FuncId} {args : Array Value} {w : World} {n : World} {v : Value}
    (h : Calls P f args (World.over w n) fun e w' => e = .returned v ∧ Below (World.over w n).heap.size (World.over w n) w') : Calls P f args (World.over w n) fun e w'' => e = .returned v ∧ ∃ m, w'' = World.over w m :=
  h.mono fun _ _ ⟨he, hm⟩ => ⟨he, over_over _ _ hm⟩
/-- .. of a callee that leaves the world alone. -/
theorem over_same {P : Program} {f : FuncId} {args : Array Value} {w : World} {n : World} {v : Value}
    (h : Calls P f args (World.over w n) fun e w' => e = .returned v ∧ World.over w n = w') : Calls P f args (World.over w n) fun e w'' => e = .returned v ∧ ∃ m, w'' = World.over w m :=
  h.mono fun _ _ ⟨he, hm⟩ => ⟨he, n, hm.symm⟩

/-- A slice of bytes that reads as the list xs. -/
def Bs (w : World) (a : Option Addr) (len cap : Nat) (xs : List UInt8) : Prop :=
  xs.length = len ∧ len ≤ cap ∧ cap ≤ maxLen ∧ (len = 0 ∨ ∃ b off, a = some ⟨b, off, none⟩ ∧ b < w.heap.size ∧
    ∀ i (h : i < xs.length), w.cell? ⟨b, off + i, none⟩ = some (.int .u8 (xs[i].toNat : Int)))

theorem Bs.below {w w' : World} {a : Option Addr} {len cap : Nat} {xs : List UInt8} (h : Bs w a len cap xs) (hb : Below w.heap.size w w') : Bs w' a len cap xs := by
  obtain ⟨h1, h2, h3, h4⟩ := h
  refine ⟨h1, h2, h3, ?_⟩
  rcases h4 with h4 | ⟨b, off, h4, h5, h6⟩
  · exact .inl h4
  · exact .inr ⟨b, off, h4, Nat.lt_of_lt_of_le h5 hb.size, fun i hi => by rw [hb.cell (p := ⟨b, off + i, none⟩) h5]; exact h6 i hi⟩
theorem Bs.alloc {w : World} {a : Option Addr} {len cap : Nat} {xs : List UInt8} (h : Bs w a len cap xs) (o : Obj) : Bs (w.alloc o) a len cap xs := h.below ((Below.refl _ _).alloc (Nat.le_refl _) o)
theorem Bs.drew {w : World} {a : Option Addr} {len cap : Nat} {xs : List UInt8} (h : Bs w a len cap xs) : Bs w.drew a len cap xs := h.below (Below.refl _ _).drew
theorem Bs.over {w : World} {a : Option Addr} {len cap : Nat} {xs : List UInt8} (h : Bs w a len cap xs) (x : World) : Bs (World.over w x) a len cap xs := h.below (below_over _ _)
theorem Bs.nil (w : World) : Bs w none 0 0 [] := ⟨rfl, Nat.le_refl _, by simp [maxLen], .inl rfl⟩
/-- the first k -/
theorem Bs.take {w : World} {a : Option Addr} {len cap : Nat} {xs : List UInt8} (h : Bs w a len cap xs) {k : Nat} (hk : k ≤ len) : Bs w a k cap (xs.take k) := by
  obtain ⟨h1, h2, h3, h4⟩ := h
  refine ⟨by simp; omega, by omega, h3, ?_⟩
  rcases h4 with h4 | ⟨b, off, h4, h5, h6⟩
  · exact .inl (by omega)
  · exact .inr ⟨b, off, h4, h5, fun i hi => by simp at hi; rw [h6 i (by omega)]; simp⟩
/-- all but the first k, at the address that Go computes -/
theorem Bs.drop {w : World} {a : Option Addr} {len cap : Nat} {xs : List UInt8} (h : Bs w a len cap xs) {k : Nat} (hk : k ≤ len) : Bs w (if cap = k then a else a.map (·.add k)) (len - k) (cap - k) (xs.drop k) := by
  obtain ⟨h1, h2, h3, h4⟩ := h
  refine ⟨by simp; omega, by omega, by omega, ?_⟩
  rcases h4 with h4 | ⟨b, off, h4, h5, h6⟩
  · exact .inl (by omega)
  · by_cases hc : cap = k
    · exact .inl (by omega)
    · rw [if_neg hc, h4]
      refine .inr ⟨b, off + k, ?_, h5, fun i hi => by simp at hi; rw [Nat.add_assoc, h6 (k + i) (by omega)]; simp⟩
      by_cases hk0 : k = 0 <;> simp [Addr.add, hk0]

/-- the cell of a byte -/
def bv (x : UInt8) : Value := .int .u8 (x.toNat : Int)
theorem Bs.newRow (w : World) (C : Array Value) (e : TypeId) (fr : Nat × Nat) (n cap : Nat) (xs : List UInt8) (hn : xs.length = n) (h : n ≤ cap) (hcap : cap ≤ maxLen)
    (hC : C.toList.take n = xs.map bv) : Bs (w.alloc (.cells C e fr)) (some ⟨w.heap.size, 0, none⟩) n cap xs := by
  refine ⟨hn, h, hcap, .inr ⟨_, _, rfl, by simp, fun i hi => ?_⟩⟩
  rw [World.cell?_alloc_mark, Nat.zero_add]
  have h1 := congrArg (·[i]?) hC
  simp only [List.getElem?_take, List.getElem?_map] at h1
  rw [if_pos (by omega)] at h1
  rw [← Array.getElem?_toList, h1]
  simp [bv, hi]

/-- a byte of a number that fits -/
def byteOf (n : Int) : UInt8 := UInt8.ofNat n.toNat
theorem byteOf_toNat {n : Int} (h : (Lit.int .u8 n).wf = true) : ((byteOf n).toNat : Int) = n := by
  have hb : 0 ≤ n ∧ n < 256 := by simp [Lit.wf, IntKind.min, IntKind.max, IntKind.bits, IntKind.signed] at h; omega
  unfold byteOf
  rw [UInt8.toNat_ofNat']
  omega
/-- the bytes of a slice that came in -/
def bytesOf (len : Nat) (zs : List Int) : List UInt8 := (zs.take len).map byteOf
theorem Bs.ofRow {w : World} {a : Option Addr} {len cap : Nat} {zs : List Int} (h : IsRow .u8 w a len cap zs) : Bs w a len cap (bytesOf len zs) := by
  rcases h with ⟨rfl, rfl, rfl, rfl⟩ | ⟨x, rfl, hl, hm, hz, hcell, hwz⟩
  · exact Bs.nil w
  · refine ⟨by simp [bytesOf]; omega, hl, hm, ?_⟩
    by_cases h0 : len = 0
    · exact .inl h0
    · obtain ⟨b, off, spot⟩ := x
      have hc := hcell 0 (by omega)
      have hspot : spot = none := by simpa [Addr.add] using World.cell?_spot hc
      subst hspot
      refine .inr ⟨b, off, rfl, by simpa [Addr.add] using World.block_lt_of_cell? w _ hc, fun i hi => ?_⟩
      have hi' : i < zs.length := by simp [bytesOf] at hi; omega
      have hci := hcell i hi'
      have he : (⟨b, off, none⟩ : Addr).add i = ⟨b, off + i, none⟩ := by by_cases hi0 : i = 0 <;> simp [Addr.add, hi0]
      rw [he] at hci
      rw [hci]
      simp only [bytesOf, List.getElem_map, List.getElem_take]
      rw [byteOf_toNat (hwz _ (List.getElem_mem _))]
      simp [List.getD_eq_getElem?_getD, hi']

/-- a number brought into lo .. hi, in plain Lean -/
def within (n lo hi : Int) : Int := lo + n % (hi - lo + 1)

theorem tmod_bd (n m : Int) (hm : 0 < m) : -m < n.tmod m ∧ n.tmod m < m := by
  rw [Int.tmod_eq_emod]
  have h1 := Int.emod_nonneg n (show m ≠ 0 by omega)
  have h2 := Int.emod_lt_of_pos n hm
  split <;> omega
theorem tmod_neg (n m : Int) (hm : 0 < m) (h : n.tmod m < 0) : n.tmod m + m = n % m := by
  rw [Int.tmod_eq_emod] at *
  have h1 := Int.emod_nonneg n (show m ≠ 0 by omega)
  have h2 := Int.emod_lt_of_pos n hm
  split at h <;> rename_i hh <;> simp [hh] <;> omega
theorem tmod_pos (n m : Int) (hm : 0 < m) (h : 0 ≤ n.tmod m) : n.tmod m = n % m := by
  rw [Int.tmod_eq_emod] at *
  have h1 := Int.emod_nonneg n (show m ≠ 0 by omega)
  have h2 := Int.emod_lt_of_pos n hm
  split at h <;> rename_i hh <;> simp [hh] <;> omega

theorem within_bd (n lo hi : Int) (h1 : lo ≤ hi) : lo ≤ within n lo hi ∧ within n lo hi ≤ hi := by
  unfold within
  have h1 := Int.emod_nonneg n (show hi - lo + 1 ≠ 0 by omega)
  have h2 := Int.emod_lt_of_pos n (show 0 < hi - lo + 1 by omega)
  omega

end Go.Proofs.Ytklckjmlifddjaa
