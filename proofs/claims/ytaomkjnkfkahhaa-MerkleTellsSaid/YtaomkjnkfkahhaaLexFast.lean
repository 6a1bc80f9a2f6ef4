/- That a region's operations may be walked as they stand, by a check without arrays. -/
import Derived.Test.YtaomkjnkfkahhaaBase
import Derived.Still
namespace Go.Proofs.Ytaomkjnkfkahhaa
open Go.RowKit

def lexFast (md : Region.Mode) (ops : Array Oper) : List Oper → Nat → Bool
  | [], _ => true
  | o :: r, k => (o.after.all fun e => !Region.binds md e || Nat.blt e.on k) && (r.all fun oj => oj.after.any (fun e => Region.binds md e && e.on == k) || o.apart ops oj) && lexFast md ops r (k + 1)
theorem lexFrom_of_fast (md : Region.Mode) (ops : Array Oper) : ∀ (s : List Oper) (k : Nat) (listed : Array Bool), ops.size = k + s.length → (∀ j, s[j]? = ops[k + j]?) → (∀ j, j < ops.size → listed[j]? = some (decide (j < k))) → listed.size = ops.size →
    lexFast md ops s k = true → Region.lexFrom md ops s.length k listed = true
  | [], k, listed, hs, _, hl, _, _ => by
    have hs' : ops.size = k := by simpa using hs
    simp only [List.length_nil, Region.lexFrom, Region.ready, List.isEmpty_iff, List.filter_eq_nil_iff, List.mem_range]
    intro i hi
    have h1 := hl i hi
    rw [decide_eq_true (by omega : i < k)] at h1
    simp [Array.getD_eq_getD_getElem?, h1]
  | o :: r, k, listed, hs, ho, hl, hz, hf => by
    have hk : k < ops.size := by simp at hs; omega
    have h0 : ops[k]? = some o := by have := ho 0; simpa using this.symm
    simp only [lexFast, Bool.and_eq_true] at hf
    obtain ⟨⟨hf1, hf2⟩, hf3⟩ := hf
    simp only [List.length_cons, Region.lexFrom, Bool.and_eq_true]
    refine ⟨⟨?_, ?_⟩, ?_⟩
    · rw [List.contains_iff_mem]
      unfold Region.ready
      rw [List.mem_filter]
      refine ⟨List.mem_range.2 hk, ?_⟩
      have h1 := hl k hk
      rw [decide_eq_false (by omega)] at h1
      rw [h0]
      simp only [Array.getD_eq_getD_getElem?, h1, Option.getD_some, Bool.not_false, Bool.true_and, Option.map_some]
      rw [Array.all_eq_true_iff_forall_mem] at hf1 ⊢
      intro e he
      have h2 := hf1 e he
      simp only [Bool.or_eq_true] at h2 ⊢
      rcases h2 with h2 | h2
      · exact .inl h2
      · have h3 : e.on < k := by rw [Nat.blt_eq] at h2; exact h2
        have h4 := hl e.on (by omega)
        rw [decide_eq_true h3] at h4
        right
        rw [h4]; rfl
    · unfold Region.free
      rw [h0]
      simp only
      rw [List.all_eq_true]
      intro j hj
      have hj' := List.mem_range.1 hj
      have h1 := hl j hj'
      rcases Nat.lt_trichotomy j k with h | h | h
      · rw [decide_eq_true h] at h1
        simp [Array.getD_eq_getD_getElem?, h1]
      · subst h; simp
      · have h2 := ho (j - k)
        rw [show k + (j - k) = j by omega] at h2
        obtain ⟨d, hd⟩ : ∃ d, j - k = d + 1 := ⟨j - k - 1, by omega⟩
        rw [hd, List.getElem?_cons_succ] at h2
        obtain ⟨oj, hoj⟩ : ∃ oj, ops[j]? = some oj := ⟨_, Array.getElem?_eq_getElem hj'⟩
        rw [hoj] at h2 ⊢
        have h3 := List.all_eq_true.1 hf2 oj (List.mem_of_getElem? h2)
        simp only [Bool.or_eq_true]
        right
        simpa using h3
    · refine lexFrom_of_fast md ops r (k + 1) _ (by simp at hs; omega) (fun j => by have := ho (j + 1); simpa [Nat.add_assoc, Nat.add_comm 1 j] using this) (fun j hj => ?_) (by simp [hz]) hf3
      by_cases h : k = j
      · subst h
        rw [Array.getElem?_setIfInBounds_self_of_lt (by omega)]
        simp
      · rw [Array.getElem?_setIfInBounds_ne h, hl j hj]
        congr 1
        rw [decide_eq_decide]
        omega
theorem lexB_of_fast (md : Region.Mode) (l : List Oper) (h1 : Region.noSelect l.toArray = true) (h2 : lexFast md l.toArray l 0 = true) : Region.lexB md l.toArray = true := by
  unfold Region.lexB
  rw [h1, Bool.true_and]
  have := lexFrom_of_fast md l.toArray l 0 (Array.replicate l.toArray.size false) (by simp) (fun j => by simp) (fun j hj => by simp at hj; simp [hj]) (by simp) h2
  simpa using this
end Go.Proofs.Ytaomkjnkfkahhaa
