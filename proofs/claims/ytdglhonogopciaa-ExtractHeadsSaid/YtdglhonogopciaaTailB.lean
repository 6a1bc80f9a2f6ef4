/- A drawn region that only reads but for its last operations, walked in the order of its text, the edges between its operations struck off (a long region is walked much faster so). -/
import Derived.Test.YtdglhonogopciaaBase
import Derived.StillTailTactics
import Derived.Deep.Quiet
namespace Go.Proofs.Ytdglhonogopciaa
open Go.RowKit

/-- an operation without its edges -/
def bare (o : Oper) : Oper := { dst := o.dst, op := o.op, type := o.type, pos := o.pos, after := #[], guard := o.guard }
def noGuards (l : List Oper) : Bool := l.all fun o => o.guard.isNone
theorem noGuards_cons {o : Oper} {l : List Oper} (h : noGuards (o :: l) = true) : o.guard = none ∧ noGuards l = true := by
  simp only [noGuards, List.all_cons, Bool.and_eq_true] at h
  exact ⟨by simpa using h.1, h.2⟩
theorem wanted_of {o : Oper} (h : o.guard = none) (f : Nat → Option Bool) : Region.wanted o f = true := by simp [Region.wanted, h]
theorem wpStill_bare {P : Program} {w : World} {Q Q' : Act → Prop} {ops : Array Oper} (hQ : ∀ a, Q' a → Q a) : ∀ (l : List Oper) (a : Act), noGuards l = true → wpStill P #[] w Q' (l.map bare) a → wpStill P ops w Q l a
  | [], a, _, h => hQ a h
  | o :: l, a, hg, h => by
    obtain ⟨h1, h2⟩ := noGuards_cons hg
    have h' : (bare o).still P a w (wpStill P #[] w Q' (l.map bare)) := by
      have : Region.wanted (bare o) (yielded #[] a.tmps) = true := wanted_of h1 _
      simpa only [List.map_cons, wpStill, this, if_true] using h
    have h2' : o.still P a w (wpStill P #[] w Q' (l.map bare)) := h'
    simp only [wpStill, wanted_of h1, if_true]
    exact Oper.still_mono (fun a ha => wpStill_bare hQ l a h2 ha) h2'
theorem wpList_bare {P : Program} {Q : Exit → Act → World → Prop} {ops : Array Oper} : ∀ (l : List Oper) (a : Act) (w : World), noGuards l = true → wpList P #[] Q (l.map bare) a w → wpList P ops Q l a w
  | [], a, w, _, h => h
  | o :: l, a, w, hg, h => by
    obtain ⟨h1, h2⟩ := noGuards_cons hg
    have h' : (bare o).wp P a w (wpList P #[] Q (l.map bare)) Q ∨ ((bare o).asks P a w ∧ LetsOut Q) := by
      have : Region.wanted (bare o) (yielded #[] a.tmps) = true := wanted_of h1 _
      simpa only [List.map_cons, wpList, this, if_true] using h
    simp only [wpList, wanted_of h1, if_true]
    rcases h' with h' | h'
    · have h3 : o.wp P a w (wpList P #[] Q (l.map bare)) Q := h'
      exact .inl (Oper.wp_mono (fun a w hw => wpList_bare l a w h2 hw) h3)
    · exact .inr h'
/-- a drawn region that only reads but for its last operations -/
theorem wp_tailb {P : Program} {id : Nat} {Q : Exit → Act → World → Prop} {a : Act} {w : World} {l : List Oper} (n : Nat) (hm : P.follows .mixedOrders = true) (hB : Region.lexTailB .any l.toArray n = true) (hg : noGuards l = true)
    (h : wpStill P #[] w.drew (fun a' => wpList P #[] Q ((l.drop n).map bare) a' w.drew) ((l.take n).map bare) a) : (Code.region id l.toArray true).wp P Q a w := by
  have h1 : noGuards (l.take n) = true := List.all_eq_true.2 fun o ho => List.all_eq_true.1 hg o (List.mem_of_mem_take ho)
  have h2 : noGuards (l.drop n) = true := List.all_eq_true.2 fun o ho => List.all_eq_true.1 hg o (List.mem_of_mem_drop ho)
  exact wp_region_still_tail n hm hB (wpStill_bare (fun a ha => wpList_bare _ a _ h2 ha) _ _ h1 h)
/-- a region that draws no order -/
theorem wp_listb {P : Program} {id : Nat} {Q : Exit → Act → World → Prop} {a : Act} {w : World} {l : List Oper} (hg : noGuards l = true) (h : wpList P #[] Q (l.map bare) a w) : (Code.region id l.toArray false).wp P Q a w :=
  wp_region_lit (wpList_bare l a w hg h)
end Go.Proofs.Ytdglhonogopciaa
