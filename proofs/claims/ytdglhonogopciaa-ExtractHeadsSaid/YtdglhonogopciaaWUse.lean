/- The writer's and the reader's contracts, as a walk over many calls uses them: what is written so far; what is left to read. -/
import Derived.Test.YtdglhonogopciaaWriter
namespace Go.Proofs.Ytdglhonogopciaa
open Go.RowKit

theorem size_alloc (w : World) (o : Obj) : w.heap.size < (w.alloc o).heap.size := by simp
theorem cell_new (w : World) (cs : Array Value) (t : TypeId) (i : Nat) : (w.alloc (.cells cs t)).cell? ⟨w.heap.size, i, none⟩ = cs[i]? := by
  simp only [World.cell?, heap_alloc_new w]; rfl
theorem cell_new_below {w w1 : World} {cs : Array Value} {t : TypeId} (hb : Below (w.alloc (.cells cs t)).heap.size (w.alloc (.cells cs t)) w1) (i : Nat) : w1.cell? ⟨w.heap.size, i, none⟩ = cs[i]? :=
  (hb.cell (p := ⟨w.heap.size, i, none⟩) (size_alloc _ _)).trans (cell_new w cs t i)
theorem frozen_new (w : World) (cs : Array Value) (t : TypeId) (i : Nat) : (w.alloc (.cells cs t)).frozen? ⟨w.heap.size, i, none⟩ = false := by
  simp only [World.frozen?, heap_alloc_new w]; simp
theorem Ext.frz {w W : World} {p b o : Nat} {v : Bool} (h : Ext p w W) (hb : b < p) (hc : w.frozen? ⟨b, o, none⟩ = v) : W.frozen? ⟨b, o, none⟩ = v := (h.1.frozen (p := ⟨b, o, none⟩) hb).trans hc
theorem Ext.cel {w W : World} {p b o : Nat} {v : Option Value} (h : Ext p w W) (hb : b < p) (hc : w.cell? ⟨b, o, none⟩ = v) : W.cell? ⟨b, o, none⟩ = v := (h.1.cell (p := ⟨b, o, none⟩) hb).trans hc
/-- a writer of our own, from block p on; L is written -/
def WI (w : World) (p q : Nat) (W : World) (L : List UInt8) : Prop := Ext p w W ∧ ∃ g, Wr W p q g L
theorem WI.cell {w W : World} {p q : Nat} {L : List UInt8} (h : WI w p q W L) {b o : Nat} {v : Value} (hb : b < p) (hc : w.cell? ⟨b, o, none⟩ = some v) : W.cell? ⟨b, o, none⟩ = some v :=
  (h.1.1.cell (p := ⟨b, o, none⟩) hb).trans hc
theorem Ext.bs {w W : World} {p : Nat} (h : Ext p w W) (hp : w.heap.size = p) {a : Option Addr} {len cap : Nat} {ys : List UInt8} (hB : Bs w a len cap ys) : Bs W a len cap ys := by
  subst hp; exact hB.below h.1
theorem WI.drew {w W : World} {p q : Nat} {L : List UInt8} (h : WI w p q W L) : WI w p q W.drew L :=
  ⟨h.1.drew, let ⟨g, hg⟩ := h.2; ⟨g, hg.below (Below.refl _ _).drew⟩⟩
theorem WI.post {w W w' : World} {p q : Nat} {g : Option Nat} {L L' : List UInt8} (h : Ext p w W) (hW : Wr W p q g L) (hP : WPost W p q g L' w') : WI w p q w' L' := by
  obtain ⟨g2, h1, h2, h3⟩ := hP
  exact ⟨h.to (hW.belowOf h2), g2, h1⟩

variable {w W : World} {p q : Nat} {rb : Option Nat} {L : List UInt8}
theorem wbyte_ok (n : Nat) (h : WI w p q W L) (hn : n ≤ 9223372036854775807) (hl : L.length + 8 ≤ big) :
    Calls Try.prog 20 #[.pointer (some ⟨q, 0, none⟩), .int .i64 (n : Int)] W fun e w' => e = .returned (.tuple #[]) ∧ WI w p q w' (L ++ be n 1) := by
  obtain ⟨hE, g, hg⟩ := h
  have e1 : be n 1 = [UInt8.ofNat n] := by simp [be]
  rw [e1]
  exact (wbyte_any p q n g L W hg hn hl).mono fun e w' ⟨h1, h2⟩ => ⟨h1, WI.post hE hg h2⟩
theorem wshort_ok (n : Nat) (h : WI w p q W L) (hn : n ≤ 9223372036854775807) (hl : L.length + 8 ≤ big) :
    Calls Try.prog 21 #[.pointer (some ⟨q, 0, none⟩), .int .i64 (n : Int)] W fun e w' => e = .returned (.tuple #[]) ∧ WI w p q w' (L ++ be n 2) := by
  obtain ⟨hE, g, hg⟩ := h
  exact (wshort_any p q n g L W hg hn hl).mono fun e w' ⟨h1, h2⟩ => ⟨h1, WI.post hE hg h2⟩
theorem wlong_ok (n : Nat) (h : WI w p q W L) (hl : L.length + 8 ≤ big) :
    Calls Try.prog 22 #[.pointer (some ⟨q, 0, none⟩), .int .u64 (n : Int)] W fun e w' => e = .returned (.tuple #[]) ∧ WI w p q w' (L ++ be n 8) := by
  obtain ⟨hE, g, hg⟩ := h
  exact (wlong_any p q n g L W hg hl).mono fun e w' ⟨h1, h2⟩ => ⟨h1, WI.post hE hg h2⟩
theorem WI.below {w W W' : World} {p q : Nat} {L : List UInt8} (h : WI w p q W L) (hb : Below W.heap.size W W') : WI w p q W' L :=
  ⟨h.1.step hb, let ⟨g, hg⟩ := h.2; ⟨g, hg.below hb⟩⟩
theorem wraw_ok {w W : World} {p q : Nat} {L : List UInt8} {a : Option Addr} {len cap : Nat} {ys : List UInt8} (h : WI w p q W L) (hy : Bs W a len cap ys) (hl : L.length + len ≤ big) :
    Calls Try.prog 23 #[.pointer (some ⟨q, 0, none⟩), .slice a len cap] W fun e w' => e = .returned (.tuple #[]) ∧ WI w p q w' (L ++ ys) := by
  obtain ⟨hE, g, hg⟩ := h
  exact (wraw_any p q g L a len cap ys W hg hy hl).mono fun e w' ⟨h1, h2⟩ => ⟨h1, WI.post hE hg h2⟩
theorem wdone_ok {w W : World} {p q : Nat} {L : List UInt8} (h : WI w p q W L) (hl : L.length ≤ big) :
    Calls Try.prog 25 #[.pointer (some ⟨q, 0, none⟩)] W fun e w' => ∃ a cap, e = .returned (.slice a L.length cap) ∧ Own w' W.heap.size (.slice a L.length cap) L ∧ Bs w' a L.length cap L ∧ WI w p q w' L := by
  obtain ⟨hE, g, hg⟩ := h
  refine (wdone_any p q g L W hg hl).mono fun e w' ⟨v, h1, h2, h3⟩ => ?_
  obtain ⟨a, cap, rfl, hB⟩ := h2.bs
  exact ⟨a, cap, h1, h2, hB, hE.step h3, g, hg.below h3⟩

end Go.Proofs.Ytdglhonogopciaa
