/- A region that draws its order and ends in stores that wait for all that reads: what reads may be taken first under a condition that the stores need not keep. -/
import Derived.Test.YtdglhonogopciaaHeld
namespace Go.Proofs.Ytdglhonogopciaa
open Go.RowKit

section
variable {P : Program} {ops : Array Oper} {Q : Exit → Act → World → Prop} {md : Region.Mode} {S : World → Prop} {bef : Nat → Bool}

/-- Whatever order is picked from here on; S is shown behind those operations that 'bef' names. -/
def wpAnyB (P : Program) (md : Region.Mode) (ops : Array Oper) (Q : Exit → Act → World → Prop) (bef : Nat → Bool) (S : World → Prop) : Nat → Array Bool → Act → World → Prop
  | 0, listed, a, w => Region.ready md ops listed = [] ∧ Q .normal a w
  | fuel + 1, listed, a, w =>
    (Region.ready md ops listed = [] → Q .normal a w) ∧
    ∀ i ∈ Region.ready md ops listed, wpOp P ops Q i (fun a' w' => (bef i = true → S w') ∧ wpAnyB P md ops Q bef S fuel (listed.setIfInBounds i true) a' w') a w

theorem wpAny_of_B : ∀ (fuel : Nat) (listed : Array Bool) (a : Act) (w : World), wpAnyB P md ops Q bef S fuel listed a w → wpAny P md ops Q fuel listed a w
  | 0, _, _, _, h => h
  | fuel + 1, _, _, _, h => ⟨h.1, fun i hi => wpOp_mono (fun a' w' h' => wpAny_of_B fuel _ a' w' h'.2) (h.2 i hi)⟩

theorem wpAnyB_first {Sy : World → Prop} {i : Nat} {oi : Oper} {v : Value} (hi : ops[i]? = some oi) (hsel : ∀ (j : Nat) (o : Oper) cs b, ops[j]? = some o → o.op ≠ .select cs b)
    (hQ : ∀ c a w, Q (.panic c) (a.put oi.dst v) w → Q (.panic c) a w) :
    ∀ (fuel : Nat) (listed : Array Bool) (a : Act) (w : World),
      (∀ j oj, ops[j]? = some oj → j ≠ i → listed.getD j true = false → (∀ e ∈ oj.after, Region.binds md e = true → e.on ≠ i) → oi.apart ops oj = true) →
      (((∀ w, Sy w) ∧ bef i = false) ∨ ((∀ w, S w → Sy w) ∧ ∀ j oj, ops[j]? = some oj → listed.getD j true = false → (∀ e ∈ oj.after, Region.binds md e = true → e.on ≠ i) → bef j = true)) →
      i ∈ Region.ready md ops listed → YieldsIf P ops Sy oi v a → Sy w → (bef i = true → S w) →
      wpAnyB P md ops Q bef S fuel (listed.setIfInBounds i true) (a.put oi.dst v) w → wpAnyB P md ops Q bef S (fuel + 1) listed a w := by
  intro fuel
  induction fuel with
  | zero =>
    intro listed a w _ _ hr hy hS hb H
    refine ⟨fun h => (by rw [h] at hr; cases hr), fun j hj => ?_⟩
    by_cases hji : j = i
    · subst hji; exact hy.wpOp hi hS ⟨hb, H⟩
    · have := ready_mono hj hji
      rw [H.1] at this
      cases this
  | succ fuel ih =>
    intro listed a w hfree hk hr hy hS hb H
    refine ⟨fun h => (by rw [h] at hr; cases hr), fun j hj => ?_⟩
    by_cases hji : j = i
    · subst hji; exact hy.wpOp hi hS ⟨hb, H⟩
    · have h1 := H.2 j (ready_mono hj hji)
      obtain ⟨hjun, oj, hoj, hall⟩ := mem_ready.1 hj
      have hnot : ∀ e ∈ oj.after, Region.binds md e = true → e.on ≠ i := fun e he hb heq => by
        have h1 := hall e he hb
        have h0 := (mem_ready.1 hr).1
        rw [heq] at h1
        rcases Nat.lt_or_ge i listed.size with h' | h'
        · simp [h'] at h0 h1; rw [h0] at h1; cases h1
        · simp [Array.getElem?_eq_none h'] at h1
      have h2 := wpOp_putIf hoj (hfree j oj hoj hji hjun hnot) (fun cs b => hsel i oi cs b hi) (fun cs b => hsel j oj cs b hoj) hQ hy h1
      have hset : ∀ k, (listed.setIfInBounds j true).getD k true = false → listed.getD k true = false := fun k hun => by
        by_cases hjk : j = k
        · subst hjk; exact hjun
        · rwa [getD_set_ne true hjk] at hun
      have hfree' : ∀ k ok, ops[k]? = some ok → k ≠ i → (listed.setIfInBounds j true).getD k true = false →
          (∀ e ∈ ok.after, Region.binds md e = true → e.on ≠ i) → oi.apart ops ok = true := fun k ok hk hki hun hno => hfree k ok hk hki (hset k hun) hno
      have hk' : ((∀ w, Sy w) ∧ bef i = false) ∨ ((∀ w, S w → Sy w) ∧ ∀ k ok, ops[k]? = some ok → (listed.setIfInBounds j true).getD k true = false → (∀ e ∈ ok.after, Region.binds md e = true → e.on ≠ i) → bef k = true) :=
        hk.imp id (fun h => ⟨h.1, fun k ok hk hun hno => h.2 k ok hk (hset k hun) hno⟩)
      refine wpOp_mono (fun a' w' h3 => ⟨h3.2.1, ih (listed.setIfInBounds j true) a' w' hfree' hk' (ready_mono hr (Ne.symm hji)) h3.1 ?_ (fun hbi => ?_) ?_⟩) h2
      · rcases hk with ⟨hk, _⟩ | ⟨hk1, hk2⟩
        · exact hk w'
        · exact hk1 w' (h3.2.1 (hk2 j oj hoj hjun hnot))
      · rcases hk with ⟨_, hk⟩ | ⟨hk1, hk2⟩
        · rw [hk] at hbi; cases hbi
        · exact h3.2.1 (hk2 j oj hoj hjun hnot)
      · rw [Array.setIfInBounds_comm _ _ hji]
        exact h3.2.2
/-- every operation that has not come up, and does not wait for number i, is one of those that 'bef' names -/
def befB (md : Region.Mode) (ops : Array Oper) (bef : Nat → Bool) (listed : Array Bool) (i : Nat) : Bool :=
  (List.range ops.size).all fun j => match ops[j]? with
    | none => true
    | some oj => listed.getD j true || oj.after.any (fun e => Region.binds md e && e.on == i) || bef j
theorem befB_spec {listed : Array Bool} {i : Nat} (h : befB md ops bef listed i = true) : ∀ j oj, ops[j]? = some oj → listed.getD j true = false → (∀ e ∈ oj.after, Region.binds md e = true → e.on ≠ i) → bef j = true := by
  intro j oj hj hun hno
  have hlt : j < ops.size := (Array.getElem?_eq_some_iff.1 hj).1
  have h1 := List.all_eq_true.1 h j (List.mem_range.2 hlt)
  simp only [hj, hun, Bool.false_or, Bool.or_eq_true] at h1
  rcases h1 with h1 | h1
  · obtain ⟨e, he, hee⟩ := Array.any_eq_true'.1 h1
    rw [Bool.and_eq_true, beq_iff_eq] at hee
    exact absurd hee.2 (hno e he hee.1)
  · exact h1

/-- taken first, under S -/
theorem heldB_take {i : Nat} (d : Nat) {oi : Oper} {v : Value} {fuel : Nat} {listed : Array Bool} {l : List Value} {ds : List Deferred} {w : World} (hi : ops[i]? = some oi)
    (hs : Region.noSelect ops = true) (hf : Region.free md ops listed i = true) (hr : (Region.ready md ops listed).contains i = true) (hb : befB md ops bef listed i = true)
    (hQ : ∀ c a w, Q (.panic c) (a.put oi.dst v) w → Q (.panic c) a w) (hd : oi.dst = some d) (hS : S w)
    (hy : YieldsIf P ops S oi v { tmps := l.toArray, defers := ds })
    (h : wpAnyB P md ops Q bef S fuel (listed.setIfInBounds i true) { tmps := (l.set d v).toArray, defers := ds } w) : wpAnyB P md ops Q bef S (fuel + 1) listed { tmps := l.toArray, defers := ds } w := by
  refine wpAnyB_first (Sy := S) hi (Region.noSelect_spec hs) hQ fuel listed _ w (Region.free_spec hi hf) (.inr ⟨fun _ h => h, befB_spec hb⟩) (by simpa using hr) hy hS (fun _ => hS) ?_
  rw [hd]
  unfold Act.put
  simp only [List.setIfInBounds_toArray]
  exact h
/-- taken first, whatever the world -/
theorem heldB_free {i : Nat} (d : Nat) {oi : Oper} {v : Value} {fuel : Nat} {listed : Array Bool} {l : List Value} {ds : List Deferred} {w : World} (hi : ops[i]? = some oi)
    (hs : Region.noSelect ops = true) (hf : Region.free md ops listed i = true) (hr : (Region.ready md ops listed).contains i = true) (hb : bef i = false)
    (hQ : ∀ c a w, Q (.panic c) (a.put oi.dst v) w → Q (.panic c) a w) (hd : oi.dst = some d)
    (hy : YieldsIf P ops (fun _ => True) oi v { tmps := l.toArray, defers := ds })
    (h : wpAnyB P md ops Q bef S fuel (listed.setIfInBounds i true) { tmps := (l.set d v).toArray, defers := ds } w) : wpAnyB P md ops Q bef S (fuel + 1) listed { tmps := l.toArray, defers := ds } w := by
  refine wpAnyB_first (Sy := fun _ => True) hi (Region.noSelect_spec hs) hQ fuel listed _ w (Region.free_spec hi hf) (.inl ⟨fun _ => trivial, hb⟩) (by simpa using hr) hy trivial (fun h => by rw [hb] at h; cases h) ?_
  rw [hd]
  unfold Act.put
  simp only [List.setIfInBounds_toArray]
  exact h
/-- the one that may come up -/
theorem heldB_one {fuel : Nat} {listed : Array Bool} {a : Act} {w : World} (i : Nat) {o : Oper} (hr : Region.ready md ops listed = [i]) (ho : ops[i]? = some o)
    (h : ∀ K' : Act → World → Prop, Shut (∀ a w, (bef i = true → S w) → wpAnyB P md ops Q bef S fuel (listed.setIfInBounds i true) a w → K' a w) → if Region.wanted o (yielded ops a.tmps) = true then Oper.wp P o a w K' Q else K' (a.put o.dst undef) w) :
    wpAnyB P md ops Q bef S (fuel + 1) listed a w := by
  refine ⟨fun h0 => (by rw [hr] at h0; cases h0), fun j hj => ?_⟩
  rw [hr] at hj
  obtain rfl := List.mem_singleton.1 hj
  exact wpOp_step ho (fun K' hK => h K' (fun a w hS hW => hK a w ⟨hS, hW⟩))
theorem heldB_done {listed : Array Bool} {a : Act} {w : World} (hr : Region.ready md ops listed = []) (h : Q .normal a w) (fuel : Nat) : wpAnyB P md ops Q bef S fuel listed a w := by
  cases fuel with
  | zero => exact ⟨hr, h⟩
  | succ n =>
    refine ⟨fun _ => h, fun i hi => ?_⟩
    rw [hr] at hi
    cases hi
theorem heldB_start {id : Nat} {a : Act} {w : World} (bef : Nat → Bool) (S : World → Prop) (hm : P.follows .mixedOrders = true) (hS : S w.drew)
    (h : S w.drew → wpAnyB P .any ops Q bef S ops.size (Array.replicate ops.size false) a w.drew) : (Code.region id ops true).wp P Q a w :=
  wp_region_any hm (wpAny_of_B _ _ _ _ (h hS))
end
end Go.Proofs.Ytdglhonogopciaa
