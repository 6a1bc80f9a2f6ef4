/- The contract of record.Decode. -/
import Derived.Test.YtmjlndfkddacbaaRecordNo
namespace Go.Proofs.Ytmjlndfkddacbaa
open Go.RowKit

/-- what is read ahead of the sum: kind, number, body, and what is left then -/
def rdK (xs : List UInt8) : Nat × (List UInt8 × Nat) := rdByte (xs, 0)
def rdQ (xs : List UInt8) : Nat × (List UInt8 × Nat) := rdLong (rdK xs).2
def rdB (xs : List UInt8) : List UInt8 × (List UInt8 × Nat) := rdBytes (rdQ xs).2
def rdE (xs : List UInt8) : Nat := xs.length - rdLeft (rdB xs).2
def rdW (xs : List UInt8) : List UInt8 := (rdRaw (rdB xs).2 4).1
def badHead : List UInt8 → Bool
  | [] => false
  | x :: _ => x != 1 && x != 2
/-- the refusal: 0 if there is none -/
def recWhy (xs : List UInt8) : Nat :=
  if badHead xs = true then 12
  else if (rdW xs).length < 4 then 10
  else if rdW xs ≠ be (crcMore 0 (xs.take (rdE xs))) 4 then 14
  else if ¬ RecOk ((rdK xs).1 : Nat) (rdQ xs).1 (rdB xs).1.length then 12 else 0

def recV (k : Int) (q : Nat) (v : Value) (n e : Int) : Value := .tuple #[.agg #[.int .i64 k, .int .u64 (q : Int), v], .int .i64 n, .int .i64 e]
set_option maxRecDepth 100000 in
theorem recdec_head (a : Option Addr) (len cap : Nat) (xs : List UInt8) (w : World) (h : Bs w a len cap xs) (hb : badHead xs = true) :
    Calls Try.prog 20 #[.slice a len cap] w fun e w' => e = .returned (recV 0 0 (.slice none 0 0) 0 12) ∧ Below w.heap.size w w' := by
  match xs, hb with
  | x :: ys, hb =>
    have hlen := h.1
    simp only [List.length_cons] at hlen
    simp only [badHead, Bool.and_eq_true, bne_iff_ne] at hb
    obtain ⟨b, off, rfl, hbl, hc⟩ : ∃ b off, a = some ⟨b, off, none⟩ ∧ b < w.heap.size ∧ w.cell? ⟨b, off, none⟩ = some (.int .u8 (x.toNat : Int)) := by
      rcases h.2.2.2 with h | ⟨b, off, h1, h2, h3⟩
      · omega
      · exact ⟨b, off, h1, h2, by have := h3 0 (by simp); rw [Nat.add_zero] at this; exact this⟩
    have e1 : ((x.toNat : Int) != 1) = true := by
      rw [bne_iff_ne]; intro h; exact hb.1 (UInt8.toNat_inj.1 (by rw [show (1 : UInt8).toNat = 1 from rfl]; omega))
    have e2 : ((x.toNat : Int) != 2) = true := by
      rw [bne_iff_ne]; intro h; exact hb.2 (UInt8.toNat_inj.1 (by rw [show (2 : UInt8).toNat = 2 from rfl]; omega))
    have hl0 : (0 : Int) < (len : Int) := by omega
    clear h hb hlen
    go_enter Try.func20, Try.ntmps20
    go_wp2_with fail
    refine bodyPost_ret (v := recV 0 0 (.slice none 0 0) 0 12) (by simp [results, Try.results20, go_sem, recV]) rfl ⟨rfl, ?_⟩
    exact ((Ext.refl w).alloc _).1
end Go.Proofs.Ytmjlndfkddacbaa
