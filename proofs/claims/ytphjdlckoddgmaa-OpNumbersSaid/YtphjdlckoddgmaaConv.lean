/- []byte(s) of a text that is known, and such bytes written. -/
import Derived.Test.YtphjdlckoddgmaaCodecUse
import Derived.Laws.IdiomStrings
namespace Go.Proofs.Ytphjdlckoddgmaa
open Go.RowKit

def convCap (w : World) (xs : List UInt8) : Nat := grownCap w xs.length 0 TB
def convW (w : World) (xs : List UInt8) : World :=
  w.drew.alloc (.cells (bytesRow (strOf xs) (convCap w xs)) TB ((bytesRow (strOf xs) (convCap w xs)).size, (bytesRow (strOf xs) (convCap w xs)).size + 1))
theorem run_bytes (xs : List UInt8) (w : World) : (convert 9 23 (.string (strOf xs))).run Try.prog w = .ok (.slice (some ⟨w.heap.size, 0, none⟩) xs.length (convCap w xs)) (convW w xs) :=
  run_bytes_of_string w 9 23 TB (strOf xs) Try.underlying9 Try.underlying23 Try.underlying5
theorem convW_below (w : World) (xs : List UInt8) : Below w.heap.size w (convW w xs) := ((Below.refl _ _).drew).alloc (Nat.le_refl _) _
theorem convW_bs (w : World) (xs : List UInt8) (h : xs.length ≤ maxLen) : Bs (convW w xs) (some ⟨w.heap.size, 0, none⟩) xs.length (convCap w xs) xs := by
  refine Bs.newRow w.drew _ _ _ _ _ _ rfl (grownCap_ge _ _ _ _) (grownCap_le_maxLen _ _ _ _ h) ?_
  have e : (bytesRow (strOf xs) (convCap w xs)).toList = xs.map bv ++ List.replicate (convCap w xs - xs.length) (.int .u8 0) := by
    unfold bytesRow strOf bv
    simp [ByteArray.size]
  rw [e]
  exact List.take_left' (by simp)
theorem wbytes_new {w W W' : World} {p q : Nat} {L : List UInt8} {len cap : Nat} {ys : List UInt8} (h : WI w p q W L) (hb : Below W.heap.size W W') (hy : Bs W' (some ⟨W.heap.size, 0, none⟩) len cap ys) (hl : L.length + 65545 ≤ big) :
    Calls Try.prog 44 #[.pointer (some ⟨q, 0, none⟩), .slice (some ⟨W.heap.size, 0, none⟩) len cap] W' fun e w' => e = .returned (.tuple #[]) ∧ WI w p q w' (L ++ lenBytes ys) := by
  obtain ⟨hE, g, hg⟩ := h
  refine (wbytes_any p q g L _ len cap ys W' (hg.below hb) hy ?_ hl).mono fun e w' ⟨h1, h2⟩ => ⟨h1, WI.post (hE.step hb) (hg.below hb) h2⟩
  intro _ ad had hk
  cases had
  rcases hk with hk | hk
  · have h1 := hg.lt; have h2 : W.heap.size = q := hk; omega
  · subst hk; exact absurd hg.row_lt.1 (Nat.lt_irrefl _)

end Go.Proofs.Ytphjdlckoddgmaa
