/- A checkpoint that was written is read. -/
import Derived.Test.YtdglhonogopciaaDoorPtKnown
import Derived.Test.YtdglhonogopciaaDoorArg
namespace Go.Proofs.YtdglhonogopciaaDoor
open Go.RowKit

theorem ptBytes_length (p : Int) (m : Mk) (hh : m.head.length = 32) (hl : (m.state.length : Int) ≤ 128 * p - 94) : ((ptBytes p.toNat m).length : Int) = 128 * p := by
  unfold ptBytes
  rw [ptImg_length _ _ _ _ _ _ _ _ hh (sha_length _)]
  simp
  omega
theorem pdec_back (s p g : Int) (m : Mk) (a : Option Addr) (len cap : Nat) (w : World) (hp : isPlan s p g) (hr : m.right g) (hl : (m.state.length : Int) ≤ 128 * p - 94) (hB : Bs w a len cap (ptBytes p.toNat m)) :
    Calls Tryd.prog 19 #[.agg #[.int .i64 s, .int .i64 p, .int .i64 g], .slice a len cap] w fun e w' => PtPost 0 m w.heap.size e w' ∧ Below w.heap.size w w' := by
  have hbd := hp.bd
  obtain ⟨r1, r2, r3, r4, r5, r6⟩ := hr
  have hMT : MT = 1099511627776 := rfl
  have hlen : (len : Int) = 128 * p := by rw [← hB.1]; exact ptBytes_length p m r6 hl
  have hc := crcMore_lt 0 (ptHead m.gen m.seq m.seg.toNat m.head m.state.length)
  have h0 := ptWhy_ok p g m ⟨r1, r2, r3, r4, r5, r6⟩ hl _ rfl
  have hD := pdec_ok s p g a len cap w m.gen m.seq m.seg.toNat m.state.length _ m.head _ _ hp hB hlen ⟨by omega, by omega, by omega, r6, by omega, hc, sha_length _⟩
  rw [h0] at hD
  refine hD.mono ?_
  rintro e w' ⟨hP, hb⟩
  refine ⟨?_, hb⟩
  have hm : ptMk 0 m.gen m.seq m.seg.toNat m.head m.state.length (m.state ++ List.replicate (128 * p.toNat - 94 - m.state.length) 0) = m := by
    unfold ptMk
    rw [if_pos rfl, List.take_left]
    obtain ⟨G, Q, S, H, T⟩ := m
    simp only [Mk.mk.injEq, true_and, and_true]
    simp only at r4
    omega
  rw [hm] at hP
  exact hP
theorem fill_set (k K : Nat) (x : UInt8) (h : k < K) : (List.replicate k x ++ List.replicate (K - k) 0).set k x = List.replicate (k + 1) x ++ List.replicate (K - (k + 1)) 0 := by
  rw [List.set_append_right _ _ (by simp), List.length_replicate, Nat.sub_self, show K - k = (K - (k + 1)) + 1 by omega, List.replicate_succ, List.set_cons_zero, List.replicate_succ', List.append_assoc]
  rfl
end Go.Proofs.YtdglhonogopciaaDoor
