/- What OpBack's walk leans on, with no region in sight: bytes of operations, and stores of nine cells. -/
import Derived.Test.YtphjdlckoddgmaaOpAsked
import Derived.Test.YtphjdlckoddgmaaOpKeep
import Derived.Test.YtphjdlckoddgmaaTools2
namespace Go.Proofs.Ytphjdlckoddgmaa
open Go.RowKit

theorem far9 {w : World} {b Z : Nat} {o : Option Obj} {v0 v1 v2 v3 v4 v5 v6 v7 v8 : Value} (h : w.heap[b]? = o) (hb : b ≠ Z) :
    (((((((((w.setCell ⟨Z, 0, none⟩ v0).setCell ⟨Z, 1, none⟩ v1).setCell ⟨Z, 2, none⟩ v2).setCell ⟨Z, 3, none⟩ v3).setCell ⟨Z, 4, none⟩ v4).setCell ⟨Z, 5, none⟩ v5).setCell ⟨Z, 6, none⟩ v6).setCell ⟨Z, 7, none⟩ v7).setCell ⟨Z, 8, none⟩ v8).heap[b]? = o :=
  cells_far (cells_far (cells_far (cells_far (cells_far (cells_far (cells_far (cells_far (cells_far h hb) hb) hb) hb) hb) hb) hb) hb) hb
theorem ext9 {B : Nat} {a w : World} {b : Nat} (h : Ext B a w) (hb : B ≤ b) (v0 v1 v2 v3 v4 v5 v6 v7 v8 : Value) :
    Ext B a (((((((((w.setCell ⟨b, 0, none⟩ v0).setCell ⟨b, 1, none⟩ v1).setCell ⟨b, 2, none⟩ v2).setCell ⟨b, 3, none⟩ v3).setCell ⟨b, 4, none⟩ v4).setCell ⟨b, 5, none⟩ v5).setCell ⟨b, 6, none⟩ v6).setCell ⟨b, 7, none⟩ v7).setCell ⟨b, 8, none⟩ v8) :=
  ((((((((h.setCell (p := ⟨b, 0, none⟩) hb _).setCell (p := ⟨b, 1, none⟩) hb _).setCell (p := ⟨b, 2, none⟩) hb _).setCell (p := ⟨b, 3, none⟩) hb _).setCell (p := ⟨b, 4, none⟩) hb _).setCell (p := ⟨b, 5, none⟩) hb _).setCell (p := ⟨b, 6, none⟩) hb _).setCell (p := ⟨b, 7, none⟩) hb _).setCell (p := ⟨b, 8, none⟩) hb _
theorem put9 {w : World} {b : Nat} {t : TypeId} {x0 x1 x2 x3 x4 x5 x6 x7 x8 v0 v1 v2 v3 v4 v5 v6 v7 v8 : Value} (h : w.heap[b]? = some (.cells #[x0, x1, x2, x3, x4, x5, x6, x7, x8] t (0, 0))) :
    (((((((((w.setCell ⟨b, 0, none⟩ v0).setCell ⟨b, 1, none⟩ v1).setCell ⟨b, 2, none⟩ v2).setCell ⟨b, 3, none⟩ v3).setCell ⟨b, 4, none⟩ v4).setCell ⟨b, 5, none⟩ v5).setCell ⟨b, 6, none⟩ v6).setCell ⟨b, 7, none⟩ v7).setCell ⟨b, 8, none⟩ v8).heap[b]? =
      some (.cells #[v0, v1, v2, v3, v4, v5, v6, v7, v8] t (0, 0)) := by
  have h0 : (w.setCell ⟨b, 0, none⟩ v0).heap[b]? = some (.cells #[v0, x1, x2, x3, x4, x5, x6, x7, x8] t (0, 0)) := cells_set h
  have h1 : ((w.setCell ⟨b, 0, none⟩ v0).setCell ⟨b, 1, none⟩ v1).heap[b]? = some (.cells #[v0, v1, x2, x3, x4, x5, x6, x7, x8] t (0, 0)) := cells_set h0
  have h2 : (((w.setCell ⟨b, 0, none⟩ v0).setCell ⟨b, 1, none⟩ v1).setCell ⟨b, 2, none⟩ v2).heap[b]? = some (.cells #[v0, v1, v2, x3, x4, x5, x6, x7, x8] t (0, 0)) := cells_set h1
  have h3 : ((((w.setCell ⟨b, 0, none⟩ v0).setCell ⟨b, 1, none⟩ v1).setCell ⟨b, 2, none⟩ v2).setCell ⟨b, 3, none⟩ v3).heap[b]? = some (.cells #[v0, v1, v2, v3, x4, x5, x6, x7, x8] t (0, 0)) := cells_set h2
  have h4 : (((((w.setCell ⟨b, 0, none⟩ v0).setCell ⟨b, 1, none⟩ v1).setCell ⟨b, 2, none⟩ v2).setCell ⟨b, 3, none⟩ v3).setCell ⟨b, 4, none⟩ v4).heap[b]? = some (.cells #[v0, v1, v2, v3, v4, x5, x6, x7, x8] t (0, 0)) := cells_set h3
  have h5 : ((((((w.setCell ⟨b, 0, none⟩ v0).setCell ⟨b, 1, none⟩ v1).setCell ⟨b, 2, none⟩ v2).setCell ⟨b, 3, none⟩ v3).setCell ⟨b, 4, none⟩ v4).setCell ⟨b, 5, none⟩ v5).heap[b]? = some (.cells #[v0, v1, v2, v3, v4, v5, x6, x7, x8] t (0, 0)) := cells_set h4
  have h6 : (((((((w.setCell ⟨b, 0, none⟩ v0).setCell ⟨b, 1, none⟩ v1).setCell ⟨b, 2, none⟩ v2).setCell ⟨b, 3, none⟩ v3).setCell ⟨b, 4, none⟩ v4).setCell ⟨b, 5, none⟩ v5).setCell ⟨b, 6, none⟩ v6).heap[b]? = some (.cells #[v0, v1, v2, v3, v4, v5, v6, x7, x8] t (0, 0)) := cells_set h5
  have h7 : ((((((((w.setCell ⟨b, 0, none⟩ v0).setCell ⟨b, 1, none⟩ v1).setCell ⟨b, 2, none⟩ v2).setCell ⟨b, 3, none⟩ v3).setCell ⟨b, 4, none⟩ v4).setCell ⟨b, 5, none⟩ v5).setCell ⟨b, 6, none⟩ v6).setCell ⟨b, 7, none⟩ v7).heap[b]? = some (.cells #[v0, v1, v2, v3, v4, v5, v6, v7, x8] t (0, 0)) := cells_set h6
  exact cells_set h7
theorem opEnc_inv (o : Ov) (h : (opEnc o).2 = 0) : ∃ a, asksOf o.kind = some a ∧ o.right a = 0 ∧ opEnc o = (o.bytes a, 0) := by
  unfold opEnc at *
  cases ha : asksOf o.kind with
  | none => rw [ha] at h; simp at h
  | some a =>
    rw [ha] at h
    simp only at h ⊢
    by_cases hr : o.right a = 0
    · exact ⟨a, rfl, hr, by rw [if_pos hr]⟩
    · rw [if_neg hr] at h; exact absurd h hr
theorem opBytes_iff (o p : Ov) (a b : Ask) (ha : asksOf o.kind = some a) (hb : asksOf p.kind = some b) (hr : o.right a = 0) (hp : p.right b = 0) (ht : o.til < 18446744073709551616) (hu : p.til < 18446744073709551616) : o.bytes a = p.bytes b ↔ o.asked a = p.asked b := by
  constructor
  · intro h
    have h1 := opDec_ok o a ha hr ht
    have h2 := opDec_ok p b hb hp hu
    rw [h, h2] at h1
    exact (congrArg Prod.fst h1).symm
  · intro h
    have hk : (o.asked a).kind = (p.asked b).kind := congrArg Ov.kind h
    have hk : o.kind = p.kind := hk
    rw [hk, hb] at ha
    obtain rfl : b = a := by injection ha
    rw [← Ov.bytes_asked o, h, Ov.bytes_asked]
theorem asked_ov (k : Int) (ps ts : List UInt8) (fd at_ n : Int) (til : Nat) (sn : Int) (da : Option Addr) (dl dc : Nat) (a : Ask) (ha : asksOf k = some a) (w : World) :
    Calls Try.prog 18 #[.agg (ovCells k (strOf ps) (strOf ts) fd at_ n til sn da dl dc)] w fun e w' => e = .returned (.agg (ovCells k (strOf (if a.path then ps else [])) (strOf (if a.to then ts else [])) (if a.fd then fd else 0) (if a.part then at_ else 0) (if a.part then n else 0) (if a.til then til else 0) (if a.snap then sn else 0) (if a.data then da else none) (if a.data then dl else 0) (if a.data then dc else 0))) ∧ Below w.heap.size w w' := by
  have h := asked_any k (strOf ps) (strOf ts) fd at_ n til sn da dl dc a ha w
  rw [show (if a.path then strOf ps else (⟨#[]⟩ : ByteArray)) = strOf (if a.path then ps else []) by split <;> rfl, show (if a.to then strOf ts else (⟨#[]⟩ : ByteArray)) = strOf (if a.to then ts else []) by split <;> rfl] at h
  exact h
theorem Bs.asked {w : World} {da : Option Addr} {dl dc : Nat} {ds : List UInt8} (h : Bs w da dl dc ds) (c : Bool) : Bs w (if c then da else none) (if c then dl else 0) (if c then dc else 0) (if c then ds else []) := by
  cases c
  · exact Bs.nil w
  · exact h
end Go.Proofs.Ytphjdlckoddgmaa
