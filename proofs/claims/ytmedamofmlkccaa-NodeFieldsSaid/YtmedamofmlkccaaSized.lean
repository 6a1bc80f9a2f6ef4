/- The form's reach, as a walk uses it: how long a slice that came in can be. -/
import Derived.Test.YtmedamofmlkccaaArg
import Derived.SizedLaws
namespace Go.Proofs.Ytmedamofmlkccaa
open Go.RowKit

def Fits (P : Program) (t : TypeId) (v : Value) : Prop := ∀ (e : TypeId) (a : Option Addr) (len cap : Nat), P.underlying t = some (.slice e) → v = .slice a len cap → len * P.bytesOf e ≤ reachBytes
theorem fits_of {H : Type} {enc : TypeId × Value → H} {P : Program} {W : World} {t : TypeId} {v : Value} {d : DataW H} {pl : List MemPlace} {ts : List TypeId} {ds : List (DataW H)} {j : Nat}
    (h : ∃ m, DataW.trod enc P W 0 (fun _ => true) true m t v.cells.toList = some (d, pl)) (hsz : (DataW.weightsEach P ts ds).all (· ≤ reachBytes) = true) (ht : ts[j]? = some t) (hd : ds[j]? = some d) : Fits P t v := by
  intro e a len cap hu hv
  subst hv
  obtain ⟨m, hm⟩ := h
  rcases Deep.open_slice hu hm with ⟨h1, _⟩ | ⟨a', len', cap', m', n, D, Pl, h1, _, hle, _, hmm, hx, _⟩
  · simp [Value.cells] at h1
    rw [h1.2.1]; omega
  · simp [Value.cells] at h1
    obtain ⟨rfl, rfl, rfl⟩ := h1
    simp only [Prod.mk.injEq] at hx
    obtain ⟨hx, _⟩ := hx
    subst hx
    have := sized_slice hsz ht hd hu
    simp only [List.length_map, List.length_range] at this
    exact Nat.le_trans (Nat.mul_le_mul_right _ (by omega)) this
end Go.Proofs.Ytmedamofmlkccaa
