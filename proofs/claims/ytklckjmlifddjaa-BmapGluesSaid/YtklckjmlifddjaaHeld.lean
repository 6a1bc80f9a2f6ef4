/- A region that draws its order, walked by hand in one order: between two calls every operation reads; each call only adds blocks. -/
import Derived.Test.YtklckjmlifddjaaBase
import Derived.Deep.RegionHeld3
namespace Go.Proofs.Ytklckjmlifddjaa
open Go.RowKit

/-- the worlds that have all that w has -/
def HB (w w' : World) : Prop := Below w.heap.size w w'
theorem HB.refl (w : World) : HB w w := Below.refl _ _
theorem HB.trans {a b c : World} (h : HB a b) (k : HB b c) : HB a c := Below.trans h (Below.mono k (Below.size h))
theorem HB.alloc {a b : World} (h : HB a b) (o : Obj) : HB a (b.alloc o) := h.trans ((Below.refl _ _).alloc (Nat.le_refl _) o)
section
variable {P : Program} {md : Region.Mode} {ops : Array Oper} {Q : Exit → Act → World → Prop}
theorem wpAnyH_mono {S S' : World → Prop} (hS : ∀ w, S' w → S w) : ∀ (fuel : Nat) (listed : Array Bool) (a : Act) (w : World), wpAnyH P md ops Q S' fuel listed a w → wpAnyH P md ops Q S fuel listed a w
  | 0, _, _, _, h => h
  | fuel + 1, _, _, _, h => ⟨h.1, fun i hi => wpOp_mono (fun a' w' h' => ⟨hS _ h'.1, wpAnyH_mono hS fuel _ a' w' h'.2⟩) (h.2 i hi)⟩
theorem held_start {id : Nat} {a : Act} {w : World} (hm : P.follows .mixedOrders = true)
    (h : HB w.drew w.drew → wpAnyH P .any ops Q (HB w.drew) ops.size (Array.replicate ops.size false) a w.drew) : (Code.region id ops true).wp P Q a w :=
  wp_region_held_drew (S := HB w.drew) hm (HB.refl _) h
theorem held_next {fuel : Nat} {listed : Array Bool} {a : Act} {w w2 : World} (hb : HB w w2) (h : HB w2 w2 → wpAnyH P md ops Q (HB w2) fuel listed a w2) : wpAnyH P md ops Q (HB w) fuel listed a w2 :=
  wpAnyH_mono (fun _ h' => hb.trans h') fuel listed a w2 (h (HB.refl _))
theorem held_take {S : World → Prop} {i : Nat} (d : Nat) {oi : Oper} {v : Value} {fuel : Nat} {listed : Array Bool} {l : List Value} {ds : List Deferred} {w : World} (hi : ops[i]? = some oi)
    (hs : Region.noSelect ops = true) (hf : Region.free md ops listed i = true) (hr : (Region.ready md ops listed).contains i = true)
    (hQ : ∀ c a w, Q (.panic c) (a.put oi.dst v) w → Q (.panic c) a w) (hd : oi.dst = some d) (hS : S w)
    (hy : YieldsIf P ops S oi v { tmps := l.toArray, defers := ds })
    (h : wpAnyH P md ops Q S fuel (listed.setIfInBounds i true) { tmps := (l.set d v).toArray, defers := ds } w) : wpAnyH P md ops Q S (fuel + 1) listed { tmps := l.toArray, defers := ds } w := by
  refine wpAnyH_take hi hs hf hr hQ hy hS ?_
  rw [hd]
  unfold Act.put
  simp only [List.setIfInBounds_toArray]
  exact h
end
end Go.Proofs.Ytklckjmlifddjaa
