/- string(b) of a slice that reads as bytes. -/
import Derived.Test.YtklckjmlifddjaaMem
namespace Go.Proofs.Ytklckjmlifddjaa
open Go.RowKit

/-- the text of bytes -/
def strOf (xs : List UInt8) : ByteArray := ⟨xs.toArray⟩
theorem strOf_toList (xs : List UInt8) : (strOf xs).toList = xs := by rw [ByteArray.toList_eq]; rfl
theorem run_string {w : World} {a : Option Addr} {len cap : Nat} {xs : List UInt8} (h : Bs w a len cap xs) : (convert 22 9 (.slice a len cap)).run Try.prog w = .ok (.string (strOf xs)) w := by
  rcases h.news with ⟨rfl, rfl, rfl⟩ | ⟨ad, rfl, h2⟩
  · exact run_convert_bytes_nil w 22 5 Try.underlying22 Try.underlying5 _ _ 9 Try.underlying9
  · obtain rfl := h.1
    refine run_convert_bytes_back w 22 9 5 ad cap xs Try.underlying22 Try.underlying5 Try.underlying9 fun j hj => h2 j _ ?_
    simp [hj, bv]

theorem Own.bsn {w : World} {B n : Nat} {v : Value} {xs : List UInt8} (h : Own w B v xs) (hn : xs.length = n) : ∃ a cap, v = .slice a n cap ∧ Bs w a n cap xs := by
  subst hn; exact h.bs

end Go.Proofs.Ytklckjmlifddjaa
