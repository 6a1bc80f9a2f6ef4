/- The contract of slices.Clone at []byte. -/
import Derived.Test.YtklckjmlifddjaaMem
import Derived.WalkSpells
namespace Go.Proofs.Ytklckjmlifddjaa
open Go.RowKit

/-- as many bytes as an append may bring: kept behind a name (a long numeral stops the walk) -/
def big : Nat := 140737488355328

theorem clone_any (a : Option Addr) (len cap : Nat) (xs : List UInt8) (w : World) (h : Bs w a len cap xs) (hl : len ≤ big) :
    Calls Try.prog 11 #[.slice a len cap] w fun e w' => ∃ v, e = .returned v ∧ Own w' w.heap.size v xs ∧ Below w.heap.size w w' := by
  have e1 := fun w => Lib.run_eql_slice_nil (P := Try.prog) (w := w)
  cases a with
  | none =>
    have h0 : len = 0 := by
      rcases h.2.2.2 with h0 | ⟨b, off, hh, _⟩
      · exact h0
      · cases hh
    subst h0
    obtain rfl := List.length_eq_zero_iff.1 h.1
    go_enter Try.func11, Try.ntmps11
    go_wp2
    go_ret
    exact ⟨_, rfl, Own.nil _ _, Below.refl _ _⟩
  | some ad =>
    go_enter Try.func11, Try.ntmps11
    go_wp2_with (at_builtin; refine wpList_append_bytes rfl _ _ rfl (w.heap.size) _ [] rfl (Own.of_row (Row.made _ _ 0 0 [] rfl rfl (by omega) (by simp [maxLen]) rfl) (by simp)) (some ad) len cap xs rfl (h.alloc _) ?_ (by simp) ?_)
    · unfold big at hl; simpa using hl
    intro v' w1 hown hg _
    have hE := ((Ext.refl w).alloc (.cells #[] TB)).grown hg (fun k hk => by simp [Value.ownBlock] at hk; omega)
    go_wp2_with fail
    go_ret
    exact ⟨_, rfl, by simpa using hown, hE.1⟩
end Go.Proofs.Ytklckjmlifddjaa
