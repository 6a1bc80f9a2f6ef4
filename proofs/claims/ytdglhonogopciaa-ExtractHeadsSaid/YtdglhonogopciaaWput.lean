/- Contracts of codec.Writer. -/
import Derived.Test.YtdglhonogopciaaClone
import Derived.Deep.AppendLies
namespace Go.Proofs.Ytdglhonogopciaa
open Go.RowKit

/-- a writer: block p holds its one field, a slice of our own (in row g), which reads xs -/
def Wr (w : World) (B p : Nat) (g : Option Nat) (xs : List UInt8) : Prop :=
  B ≤ p ∧ ∃ v, w.heap[p]? = some (.cells #[v] 59 (0, 0)) ∧ Own w B v xs ∧ v.ownBlock = g ∧ g ≠ some p

theorem Wr.lt {w : World} {B p : Nat} {g : Option Nat} {xs : List UInt8} (h : Wr w B p g xs) : p < w.heap.size := by
  obtain ⟨_, v, h1, _⟩ := h
  exact (Array.getElem?_eq_some_iff.1 h1).1
theorem Wr.base {w : World} {B p : Nat} {g : Option Nat} {xs : List UInt8} (h : Wr w B p g xs) : B ≤ p := h.1
theorem Wr.row_lt {w : World} {B p g : Nat} {xs : List UInt8} (h : Wr w B p (some g) xs) : g < w.heap.size ∧ B ≤ g := by
  obtain ⟨_, v, _, h2, h3, _⟩ := h
  rcases h2.parts with ⟨rfl, _⟩ | ⟨g', cap, rfl, h4, h5⟩
  · simp [Value.ownBlock] at h3
  · simp [Value.ownBlock] at h3; subst h3; exact ⟨h5.lt, h4⟩
/-- what it may write -/
def WS (p : Nat) (g : Option Nat) (k : Nat) : Prop := k = p ∨ g = some k
theorem Wr.chg {w w' : World} {B p : Nat} {g : Option Nat} {xs : List UInt8} {S : Nat → Prop} (h : Wr w B p g xs) (hc : Chg S w w') (hs : ∀ k, WS p g k → ¬ S k) : Wr w' B p g xs := by
  have hlt := h.lt
  obtain ⟨h0, v, h1, h2, h3, h4⟩ := h
  exact ⟨h0, v, (hc.block p hlt (hs p (.inl rfl))).trans h1, hc.own h2 (fun k hk => hs k (.inr (h3 ▸ hk))), h3, h4⟩
theorem Wr.below {w w' : World} {B p : Nat} {g : Option Nat} {xs : List UInt8} (h : Wr w B p g xs) (hb : Below w.heap.size w w') : Wr w' B p g xs :=
  h.chg (Chg.of_below hb (fun _ => False)) (fun _ _ => id)

theorem Wr.belowOf {w w' : World} {B p : Nat} {g : Option Nat} {xs : List UInt8} (h : Wr w B p g xs) (hc : Chg (WS p g) w w') : Below B w w' := by
  refine hc.below (by have := h.lt; have := h.base; omega) (fun k _ hs => ?_)
  rcases hs with rfl | rfl
  · exact h.base
  · exact h.row_lt.2
theorem Ext.to {B : Nat} {a w w' : World} (h : Ext B a w) (hb : Below B w w') : Ext B a w' := ⟨h.1.trans hb, Nat.le_trans h.2 hb.size⟩

/-- big-endian bytes: the lowest size bytes of n, the highest first -/
def be (n : Nat) : Nat → List UInt8
  | 0 => []
  | k + 1 => UInt8.ofNat (n / 256 ^ k) :: be n k
theorem be_length (n k : Nat) : (be n k).length = k := by induction k with
  | zero => rfl
  | succ k ih => simp [be, ih]

theorem lt_alloc {w : World} {p : Nat} {o : Obj} (h : p < w.heap.size) : p < (w.alloc o).heap.size := by simp; omega

/-- what a call on a writer leaves -/
def WPost (w : World) (B p : Nat) (g : Option Nat) (xs : List UInt8) (w' : World) : Prop :=
  ∃ g', Wr w' B p g' xs ∧ Chg (WS p g) w w' ∧ (g' = g ∨ ∃ k, g' = some k ∧ w.heap.size ≤ k)
theorem WPost.trans {w w1 w2 : World} {B p : Nat} {g g1 : Option Nat} {xs : List UInt8} (hc : Chg (WS p g) w w1) (hg : g1 = g ∨ ∃ k, g1 = some k ∧ w.heap.size ≤ k) (h : WPost w1 B p g1 xs w2) : WPost w B p g xs w2 := by
  obtain ⟨g2, h1, h2, h3⟩ := h
  refine ⟨g2, h1, hc.trans h2 (fun i hi hs => ?_), ?_⟩
  · rcases hs with rfl | hs
    · exact .inl rfl
    · rcases hg with rfl | ⟨k, rfl, hk⟩
      · exact .inr hs
      · cases hs; omega
  · rcases h3 with rfl | ⟨k, rfl, hk⟩
    · exact hg
    · exact .inr ⟨k, rfl, Nat.le_trans hc.size hk⟩

/-- an append onto a writer's slice, stored back -/
theorem WPost.store {wr W w1 : World} {B p : Nat} {g1 : Option Nat} {ys zs : List UInt8} {v V : Value} (h : Wr wr B p g1 ys) (hv : wr.heap[p]? = some (.cells #[v] 59 (0, 0))) (hvg : v.ownBlock = g1)
    (hA : Below wr.heap.size wr W) (h1 : Own w1 B V zs) (h2 : W.grownBy w1 v.ownBlock) (h3 : V.ownBlock = v.ownBlock ∨ V.ownBlock = some W.heap.size) : WPost wr B p g1 zs (w1.setCell ⟨p, 0, none⟩ V) := by
  have hlt := h.lt
  obtain ⟨hB, v0, hv0, _, hvg0, hgp⟩ := h
  have hpW : p < W.heap.size := Nat.lt_of_lt_of_le hlt hA.size
  have hne : V.ownBlock ≠ some p := by
    rcases h3 with h3 | h3
    · rw [h3, hvg]; exact hgp
    · rw [h3]; intro e; cases e; omega
  have hp1 : w1.heap[p]? = some (.cells #[v] 59 (0, 0)) := (h2.block p hpW (fun e => hgp (hvg ▸ e.symm))).trans ((hA.block p hlt).trans hv)
  have hset : Chg (fun k => k = p) w1 (w1.setCell ⟨p, 0, none⟩ V) := Chg.setCell (S := fun k => k = p) (p := ⟨p, 0, none⟩) (Chg.refl _ _) (fun _ => rfl) V
  refine ⟨V.ownBlock, ⟨hB, V, ?_, hset.own h1 (fun k hk e => hne (by rw [hk, e])), rfl, hne⟩, ?_, ?_⟩
  · exact one_setCell hp1
  · refine ((Chg.of_below hA _).grown h2 (fun k _ hk => .inr (hvg ▸ hk))).setCell (fun _ => .inl rfl) V
  · rcases h3 with h3 | h3
    · exact .inl (h3.trans hvg)
    · exact .inr ⟨_, h3, hA.size⟩

set_option maxHeartbeats 400000 in
theorem put_any (B p n size : Nat) (g : Option Nat) (xs : List UInt8) (w : World) (h : Wr w B p g xs) (hs : size ≤ 8) (hl : xs.length + 8 ≤ big) :
    Calls Try.prog 35 #[.pointer (some ⟨p, 0, none⟩), .int .u64 (n : Int), .int .i64 (size : Int)] w fun e w' => e = .returned (.tuple #[]) ∧ WPost w B p g (xs ++ be n size) w' := by
  go_enter Try.func35, Try.ntmps35
  go_wp2_with fail
  go_loopw [6] (fun i wr => ∃ k : Nat, ∃ done : List UInt8, k ≤ size ∧ i = .int .i64 ((k : Int) - 1) ∧ done ++ be n k = be n size ∧ WPost w B p g (xs ++ done) wr) (fun i _ => (intOf i + 1).toNat)
  case atStart => exact ⟨size, [], by omega, rfl, rfl, g, by simpa using h, Chg.refl _ _, .inl rfl⟩
  case round =>
    obtain ⟨k, done, hk, rfl, hd, g1, hW, hC, hG⟩ := hrel
    by_cases hk0 : 0 < k
    · obtain ⟨j, rfl⟩ : ∃ j, k = j + 1 := ⟨k - 1, by omega⟩
      rw [show ((j + 1 : Nat) : Int) - 1 = (j : Int) by omega]
      have hWl := hW.lt
      obtain ⟨hB, v, hv, hown, hvg, hgp⟩ := hW
      have hc := cell_of_one hv
      have hz := free_of_one hv
      have HC := Lib.hid (show (#[.int .u8 (IntKind.u8.wrap ((n : Int) / 2 ^ (8 * (j : Int)).toNat))] : Array Value).toList.take 1 = [UInt8.ofNat (n / 256 ^ j)].map bv by
        have e1 : (8 * (j : Int)).toNat = 8 * j := by omega
        have e2 : ((n : Int) / 2 ^ (8 * j)) = ((n / 256 ^ j : Nat) : Int) := by rw [show (256 : Nat) = 2 ^ 8 by decide, ← Nat.pow_mul]; simp
        rw [e1, e2]
        simp [bv, IntKind.wrap_u8'])
      have hw8 : IntKind.i64.wrap (8 * (j : Int)) = 8 * (j : Int) := IntWalk.i64_in _ (by omega)
      have hdl : done.length + (j + 1) = size := by have := congrArg List.length hd; simpa [be_length] using this
      have hL : (xs ++ done).length + 1 ≤ big := by simp; omega
      have hne : some p ≠ v.ownBlock := fun e => hgp (hvg ▸ e.symm)
      go_wp2_with fail
      have HLn := Lib.hid (show (xs ++ done ++ [UInt8.ofNat (n / 256 ^ j)]).length = xs.length + (done.length + 1) by simp)
      have h1m : 1 ≤ maxLen := by simp [maxLen]
      go_region_law (refine step_append_at rfl _ _ rfl B v (xs ++ done) rfl ?_ (some ⟨wr.heap.size, 0, none⟩) 1 1 [UInt8.ofNat (n / 256 ^ j)] rfl ?_ hL ?_ (fun v' w1 h1 h2 h3 => ?_); (exact (hown.below (Below.refl _ _).drew).alloc _); (exact Bs.drew (Bs.newRow _ _ _ _ _ _ _ rfl (Nat.le_refl _) h1m HC.out)); (simp; omega); obtain ⟨a', cap', rfl, _⟩ := h1.bs; have hc1 := (World.grownBy.cell_far h2 ⟨p, 0, none⟩ (lt_alloc hWl) hne); have hz1 := (World.grownBy.frozen_far h2 ⟨p, 0, none⟩ (lt_alloc hWl) hne))
      all_goals
        rw [HLn.out] at h1 h3
        have hP := WPost.trans hC hG (WPost.store ⟨hB, v, hv, hown, hvg, hgp⟩ hv hvg (((Below.refl _ _).alloc (Nat.le_refl _) _).drew) h1 h2 h3)
        go_wp2_with fail
        go_roundw
        case rel => exact ⟨j, done ++ [UInt8.ofNat (n / 256 ^ j)], by omega, rfl, by rw [← hd]; simp [be], by simpa using hP⟩
        case measure => simp [intOf]
    · obtain rfl : k = 0 := by omega
      have hd' : done = be n size := by simpa [be] using hd
      subst hd'
      go_wp2_with fail
      go_end0
      exact ⟨rfl, g1, hW, hC, hG⟩
end Go.Proofs.Ytdglhonogopciaa
