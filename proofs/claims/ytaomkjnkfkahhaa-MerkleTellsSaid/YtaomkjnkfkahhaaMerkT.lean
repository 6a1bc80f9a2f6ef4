/- A row of a path is turned: a new row is laid for it, a byte of it turned; what all else reads as. -/
import Derived.Test.YtaomkjnkfkahhaaMerkN
import Derived.Test.YtaomkjnkfkahhaaMerkM
namespace Go.Proofs.Ytaomkjnkfkahhaa
open Go.RowKit

theorem mpath_32 (ls : List (List UInt8)) (i : Nat) : ∀ p ∈ mpath ls i, p.length = 32 := by
  rw [mpath]
  split
  · intro p hp; cases hp
  · rename_i h
    have := mpart_spec (n := ls.length) (by omega)
    split
    · intro p hp
      rcases List.mem_append.1 hp with hp | hp
      · exact mpath_32 _ _ p hp
      · rw [List.mem_singleton.1 hp, mroot_length]
    · intro p hp
      rcases List.mem_append.1 hp with hp | hp
      · exact mpath_32 _ _ p hp
      · rw [List.mem_singleton.1 hp, mroot_length]
termination_by ls.length
decreasing_by
  · simp; omega
  · simp; omega
theorem mgrown_32 (ls : List (List UInt8)) (m : Nat) (b : Bool) : ∀ p ∈ mgrown ls m b, p.length = 32 := by
  rw [mgrown]
  split
  · split
    · intro p hp; cases hp
    · intro p hp; rw [List.mem_singleton.1 hp, mroot_length]
  · split
    · intro p hp; cases hp
    · rename_i h
      have := mpart_spec (n := ls.length) (by omega)
      split
      · intro p hp
        rcases List.mem_append.1 hp with hp | hp
        · exact mgrown_32 _ _ _ p hp
        · rw [List.mem_singleton.1 hp, mroot_length]
      · intro p hp
        rcases List.mem_append.1 hp with hp | hp
        · exact mgrown_32 _ _ _ p hp
        · rw [List.mem_singleton.1 hp, mroot_length]
termination_by ls.length
decreasing_by
  · simp; omega
  · simp; omega

theorem Bs.turned {W0 W1 : World} {a : Option Addr} {m c : Nat} {xs : List UInt8} (h : Bs W0 a m c xs) (hb : Below W0.heap.size W0 W1) {g k gN j : Nat} {x : Option Addr} {y z : Nat}
    (hp : W1.cell? ⟨g, k, none⟩ = some (.slice x y z)) (hg : W0.heap.size ≤ gN) (u v : Value) : Bs ((W1.setCell ⟨g, k, none⟩ u).setCell ⟨gN, j, none⟩ v) a m c xs := by
  obtain ⟨h1, h2, h3, h4⟩ := h
  refine ⟨h1, h2, h3, ?_⟩
  rcases h4 with h4 | ⟨b, off, h4, h5, h6⟩
  · exact .inl h4
  · refine .inr ⟨b, off, h4, by simpa using Nat.lt_of_lt_of_le h5 hb.size, fun i hi => ?_⟩
    have h7 := (hb.cell (p := ⟨b, off + i, none⟩) h5).trans (h6 i hi)
    rw [World.cell?_setCell_far _ ⟨gN, j, none⟩ ⟨b, off + i, none⟩ _ (by show gN ≠ b; omega), World.cell?_setCell_other]
    · exact h7
    · intro e
      rw [e, h7] at hp
      cases hp
theorem LL.turned {W0 W1 : World} {a : Option Addr} {n c : Nat} {ls : List (List UInt8)} (h : LL W0 a n c ls) (hb : Below W0.heap.size W0 W1) {g k gN j : Nat} {x : Option Addr} {y z : Nat}
    (hp : W1.cell? ⟨g, k, none⟩ = some (.slice x y z)) (hne : n = 0 ∨ ∀ b off, a = some ⟨b, off, none⟩ → b ≠ g) (hg : W0.heap.size ≤ gN) (u v : Value) : LL ((W1.setCell ⟨g, k, none⟩ u).setCell ⟨gN, j, none⟩ v) a n c ls := by
  obtain ⟨h1, h2, h3, h4⟩ := h
  refine ⟨h1, h2, h3, ?_⟩
  rcases h4 with h4 | ⟨b, off, h4, h5, h6⟩
  · exact .inl h4
  · rcases hne with hne | hne
    · exact .inl hne
    have hbg := hne b off h4
    refine .inr ⟨b, off, h4, by simpa using Nat.lt_of_lt_of_le h5 hb.size, fun i hi => ?_⟩
    obtain ⟨a', m, c', h7, h8⟩ := h6 i hi
    refine ⟨a', m, c', ?_, h8.turned hb hp hg u v⟩
    rw [World.cell?_setCell_far _ ⟨gN, j, none⟩ ⟨b, off + i, none⟩ _ (by show gN ≠ b; omega), World.cell?_setCell_far _ ⟨g, k, none⟩ ⟨b, off + i, none⟩ _ (by show g ≠ b; exact fun e => hbg e.symm)]
    exact (hb.cell (p := ⟨b, off + i, none⟩) h5).trans h7
/-- the list whose row is turned -/
theorem LL.turn {W0 W1 : World} {n c : Nat} {ls : List (List UInt8)} {g off k gN cN j : Nat} {row : List UInt8} {t : UInt8} {x : Option Addr} {y z : Nat} (h : LL W0 (some ⟨g, off, none⟩) n c ls) (hb : Below W0.heap.size W0 W1)
    (hk : k < n) (hp : W1.cell? ⟨g, off + k, none⟩ = some (.slice x y z)) (hR : Row W1 gN cN row) (hg : W0.heap.size ≤ gN) (hgl : g < W0.heap.size) :
    LL ((W1.setCell ⟨g, off + k, none⟩ (.slice (some ⟨gN, 0, none⟩) row.length cN)).setCell ⟨gN, j, none⟩ (bv t)) (some ⟨g, off, none⟩) n c (ls.set k (row.set j t)) := by
  obtain ⟨h1, h2, h3, h4⟩ := h
  have hR1 : Row (W1.setCell ⟨g, off + k, none⟩ (.slice (some ⟨gN, 0, none⟩) row.length cN)) gN cN row := hR.setOther (by show gN ≠ g; omega) _
  have hR2 := (hR1.set j t).bs
  rw [List.length_set] at hR2
  refine ⟨by rw [List.length_set]; exact h1, h2, h3, .inr ⟨g, off, rfl, by simpa using Nat.lt_of_lt_of_le hgl hb.size, fun i hi => ?_⟩⟩
  rw [List.length_set] at hi
  by_cases hik : i = k
  · subst hik
    refine ⟨some ⟨gN, 0, none⟩, row.length, cN, ?_, ?_⟩
    · rw [World.cell?_setCell_far _ ⟨gN, j, none⟩ ⟨g, off + i, none⟩ _ (by show gN ≠ g; omega)]
      exact World.cell?_setCell_same _ _ _ hp
    · rw [List.getElem_set_self]; exact hR2
  · rcases h4 with h4 | ⟨b, o, h4, h5, h6⟩
    · omega
    · injection h4 with h4
      injection h4 with e1 e2 _
      subst e1 e2
      obtain ⟨a', m, c', h7, h8⟩ := h6 i hi
      refine ⟨a', m, c', ?_, ?_⟩
      · rw [World.cell?_setCell_far _ ⟨gN, j, none⟩ ⟨g, off + i, none⟩ _ (by show gN ≠ g; omega), World.cell?_setCell_other]
        · exact (hb.cell (p := ⟨g, off + i, none⟩) h5).trans h7
        · intro e; injection e with _ e2 _; omega
      · rw [List.getElem_set_ne (fun e => hik e.symm)]
        exact h8.turned hb hp hg _ _
theorem cell_heap {W W' : World} (e : W'.heap = W.heap) (a : Addr) : W'.cell? a = W.cell? a := by simp [World.cell?, e]
theorem Bs.heap {W W' : World} {a : Option Addr} {m c : Nat} {xs : List UInt8} (h : Bs W a m c xs) (e : W'.heap = W.heap) : Bs W' a m c xs := by
  unfold Bs at *
  simp only [cell_heap e, e]
  exact h
theorem LL.heap {W W' : World} {a : Option Addr} {n c : Nat} {ls : List (List UInt8)} (h : LL W a n c ls) (e : W'.heap = W.heap) : LL W' a n c ls := by
  obtain ⟨h1, h2, h3, h4⟩ := h
  refine ⟨h1, h2, h3, ?_⟩
  rcases h4 with h4 | ⟨b, off, h4, h5, h6⟩
  · exact .inl h4
  · refine .inr ⟨b, off, h4, by rw [e]; exact h5, fun i hi => ?_⟩
    obtain ⟨a', m, c', h7, h8⟩ := h6 i hi
    exact ⟨a', m, c', by rw [cell_heap e]; exact h7, h8.heap e⟩
/-- a block of cells that may be stored to -/
def Plain (w : World) (g : Nat) : Prop := ∃ cs T, w.heap[g]? = some (.cells cs T (0, 0))
theorem Plain.lt {w : World} {g : Nat} (h : Plain w g) : g < w.heap.size := by obtain ⟨_, _, h⟩ := h; exact (Array.getElem?_eq_some_iff.1 h).1
theorem Plain.below {w w' : World} {g : Nat} (h : Plain w g) (hb : Below w.heap.size w w') : Plain w' g := by
  have hl := h.lt
  obtain ⟨cs, T, h⟩ := h
  exact ⟨cs, T, (hb.block g hl).trans h⟩
theorem Plain.set {w : World} {g b k : Nat} {y : Value} (h : Plain w g) : Plain (w.setCell ⟨b, k, none⟩ y) g := by
  obtain ⟨cs, T, h⟩ := h
  by_cases e : g = b
  · subst e; exact ⟨_, _, cells_set h⟩
  · exact ⟨_, _, cells_far h e⟩
theorem Plain.heap {w w' : World} {g : Nat} (h : Plain w g) (e : w'.heap = w.heap) : Plain w' g := by unfold Plain; rw [e]; exact h
theorem Plain.free {w : World} {g : Nat} (h : Plain w g) (k : Nat) : w.frozen? ⟨g, k, none⟩ = false := by
  obtain ⟨cs, T, h⟩ := h
  simp [World.frozen?, h]
/-- where a list of our own lies -/
theorem OwnL.place {w : World} {B n c : Nat} {a : Option Addr} {ls : List (List UInt8)} (h : OwnL w B (.slice a n c) ls) (h0 : 0 < ls.length) : ∃ g, a = some ⟨g, 0, Option.none⟩ ∧ B ≤ g ∧ Plain w g := by
  obtain ⟨vs, h1, _⟩ := h
  rcases h1.2 with ⟨_, h2⟩ | ⟨g, cap, cur, hv, hB, hcur, _⟩
  · omega
  · injection hv with e1 e2 e3
    exact ⟨g, e1, hB, _, _, hcur⟩
/-- the list at a lies in a block of its own, from lo on, below hi -/
def Place (w : World) (a : Option Addr) (d lo hi : Nat) : Prop := 0 < d → ∃ g, a = some ⟨g, 0, none⟩ ∧ lo ≤ g ∧ g < hi ∧ Plain w g
theorem Place.below {w w' : World} {a : Option Addr} {d lo hi : Nat} (h : Place w a d lo hi) (hb : Below w.heap.size w w') : Place w' a d lo hi := fun h0 => by
  obtain ⟨g, h1, h2, h3, h4⟩ := h h0
  exact ⟨g, h1, h2, h3, h4.below hb⟩
theorem Place.turned {W0 W1 W2 : World} {a : Option Addr} {d lo hi g k gN j : Nat} {u v : Value} (h : Place W0 a d lo hi) (hb : Below W0.heap.size W0 W1) (e : W2.heap = ((W1.setCell ⟨g, k, none⟩ u).setCell ⟨gN, j, none⟩ v).heap) : Place W2 a d lo hi := fun h0 => by
  obtain ⟨g', h1, h2, h3, h4⟩ := h h0
  exact ⟨g', h1, h2, h3, ((h4.below hb).set.set).heap e⟩
theorem set_32 {Q : List (List UInt8)} {k j : Nat} {row : List UInt8} {t : UInt8} (h : ∀ p ∈ Q, p.length = 32) (hr : row.length = 32) : ∀ p ∈ Q.set k (row.set j t), p.length = 32 := fun p hp => by
  rcases List.mem_or_eq_of_mem_set hp with h1 | rfl
  · exact h p h1
  · rw [List.length_set]; exact hr
/-- what the checks find: the leaves, a leaf more, two roots, a path, a proof of growth -/
def TSt (H : Nat) (w : World) (a : Option Addr) (n c : Nat) (L : List (List UInt8)) (fa : Option Addr) (fm fc : Nat) (FF : List UInt8) (ra : Option Addr) (rc : Nat) (R : List UInt8) (sa : Option Addr) (sc : Nat) (S : List UInt8)
    (qa : Option Addr) (dq qc : Nat) (Q : List (List UInt8)) (ha : Option Addr) (dh hc : Nat) (G : List (List UInt8)) (wx : World) : Prop :=
  LL wx a n c L ∧ Bs wx fa fm fc FF ∧ Bs wx ra 32 rc R ∧ Bs wx sa 32 sc S ∧ LL wx qa dq qc Q ∧ LL wx ha dh hc G ∧ Ext H w wx
/-- a row of the path is turned -/
theorem TSt.turnQ {H : Nat} {w : World} {a : Option Addr} {n c : Nat} {L : List (List UInt8)} {fa : Option Addr} {fm fc : Nat} {FF : List UInt8} {ra : Option Addr} {rc : Nat} {R : List UInt8} {sa : Option Addr} {sc : Nat} {S : List UInt8}
    {qc dq : Nat} {Q : List (List UInt8)} {ha : Option Addr} {dh hc : Nat} {G : List (List UInt8)} {W0 W1 W2 : World} {g k gN cN j : Nat} {row : List UInt8} {t : UInt8} {x : Option Addr} {y z : Nat}
    (h : TSt H w a n c L fa fm fc FF ra rc R sa sc S (some ⟨g, 0, none⟩) dq qc Q ha dh hc G W0) (hb : Below W0.heap.size W0 W1) (hk : k < dq) (hp : W1.cell? ⟨g, k, none⟩ = some (.slice x y z)) (hR : Row W1 gN cN row) (hg : W0.heap.size ≤ gN)
    (hgl : g < W0.heap.size) (hl : ∀ b off, a = some ⟨b, off, none⟩ → b ≠ g) (hh : dh = 0 ∨ ∀ b off, ha = some ⟨b, off, none⟩ → b ≠ g)
    (e : W2.heap = ((W1.setCell ⟨g, k, none⟩ (.slice (some ⟨gN, 0, none⟩) row.length cN)).setCell ⟨gN, j, none⟩ (bv t)).heap) (hE : Ext H w W2) :
    TSt H w a n c L fa fm fc FF ra rc R sa sc S (some ⟨g, 0, none⟩) dq qc (Q.set k (row.set j t)) ha dh hc G W2 := by
  obtain ⟨h1, h2, h3, h4, h5, h6, h7⟩ := h
  have ht := h5.turn (j := j) (t := t) hb hk (by rw [Nat.zero_add]; exact hp) hR hg hgl
  rw [Nat.zero_add] at ht
  exact ⟨(h1.turned hb hp (.inr hl) hg _ _).heap e, (h2.turned hb hp hg _ _).heap e, (h3.turned hb hp hg _ _).heap e, (h4.turned hb hp hg _ _).heap e, ht.heap e, (h6.turned hb hp hh hg _ _).heap e, hE⟩
/-- a row of the proof of growth is turned -/
theorem TSt.turnH {H : Nat} {w : World} {a : Option Addr} {n c : Nat} {L : List (List UInt8)} {fa : Option Addr} {fm fc : Nat} {FF : List UInt8} {ra : Option Addr} {rc : Nat} {R : List UInt8} {sa : Option Addr} {sc : Nat} {S : List UInt8}
    {qa : Option Addr} {qc dq : Nat} {Q : List (List UInt8)} {dh hc : Nat} {G : List (List UInt8)} {W0 W1 W2 : World} {g k gN cN j : Nat} {row : List UInt8} {t : UInt8} {x : Option Addr} {y z : Nat}
    (h : TSt H w a n c L fa fm fc FF ra rc R sa sc S qa dq qc Q (some ⟨g, 0, none⟩) dh hc G W0) (hb : Below W0.heap.size W0 W1) (hk : k < dh) (hp : W1.cell? ⟨g, k, none⟩ = some (.slice x y z)) (hR : Row W1 gN cN row) (hg : W0.heap.size ≤ gN)
    (hgl : g < W0.heap.size) (hl : ∀ b off, a = some ⟨b, off, none⟩ → b ≠ g) (hh : dq = 0 ∨ ∀ b off, qa = some ⟨b, off, none⟩ → b ≠ g)
    (e : W2.heap = ((W1.setCell ⟨g, k, none⟩ (.slice (some ⟨gN, 0, none⟩) row.length cN)).setCell ⟨gN, j, none⟩ (bv t)).heap) (hE : Ext H w W2) :
    TSt H w a n c L fa fm fc FF ra rc R sa sc S qa dq qc Q (some ⟨g, 0, none⟩) dh hc (G.set k (row.set j t)) W2 := by
  obtain ⟨h1, h2, h3, h4, h5, h6, h7⟩ := h
  have ht := h6.turn (j := j) (t := t) hb hk (by rw [Nat.zero_add]; exact hp) hR hg hgl
  rw [Nat.zero_add] at ht
  exact ⟨(h1.turned hb hp (.inr hl) hg _ _).heap e, (h2.turned hb hp hg _ _).heap e, (h3.turned hb hp hg _ _).heap e, (h4.turned hb hp hg _ _).heap e, (h5.turned hb hp hh hg _ _).heap e, ht.heap e, hE⟩
end Go.Proofs.Ytaomkjnkfkahhaa
