/- slices.Chunk at []byte, 128: the iterator over a row's blocks, and its contract. -/
import Derived.RangeFuncBox
import Derived.RangeFuncNested
import Derived.RangeFuncBound
import Derived.RangeFuncCalls
import Derived.RangeFuncLeaves
import Derived.Shelf.Abstract
import Derived.WalkKit
import Derived.OwnWalkIn
import Derived.TacticsInMore
import Derived.LoopNIn
import Derived.LoopIn
import Derived.Test.YtklckjmlifddjaaClone
namespace Go.Proofs.Ytklckjmlifddjaa
open Go.RowKit Go.Shelf
attribute [local go_sem] Oper.semAt_some

/-- how many blocks so many bytes have -/
def nblk (len : Nat) : Nat := (len + 127) / 128
/-- a block's number -/
abbrev CI (len : Nat) : Type := { k : Nat // 128 * k < len }
/-- a block as a slice -/
def ckV (a : Option Addr) (len k : Nat) : Value := .slice (a.map (·.add (128 * k))) (min 128 (len - 128 * k)) (min 128 (len - 128 * k))

set_option maxRecDepth 100000 in
set_option maxHeartbeats 1000000 in
theorem chunk_in (F : Fence) (n : Nat) (h5 : F.fn 10) (hro : F.round = none) (a : Option Addr) (len cap : Nat) (w : World) :
    CallsIn F n Try.prog 10 #[.slice a len cap, .int .i64 128] w fun e w' => e = .returned (.func (.func 15) #[] #[.pointer (some ⟨w.heap.size, 0, none⟩), .pointer (some ⟨w.heap.size + 1, 0, none⟩)]) ∧ w' = (w.alloc (.cells #[.slice a len cap] 22)).alloc (.cells #[.int .i64 128] 3) := by
  refine callsIn_of_wp Try.func10 rfl h5 ?_ hro
  simp only [Try.ntmps10, List.size_toArray, List.length_cons, List.length_nil, Nat.reduceAdd, Nat.reduceSub, Array.replicate_succ, Array.replicate_zero, List.push_toArray, List.append_toArray, List.nil_append, List.cons_append]
  gi_wp2
  go_ret
  exact ⟨rfl, rfl⟩

theorem ckV_at (b o len k m : Nat) (hm : m = min 128 (len - 128 * k)) : ckV (some ⟨b, o, none⟩) len k = .slice (some ⟨b, o + 128 * k, none⟩) m m := by
  unfold ckV
  rw [← hm]
  by_cases h0 : k = 0
  · simp [Addr.add, h0]
  · have h1 : ¬ 128 * k = 0 := by omega
    simp [Addr.add, h1]

set_option maxRecDepth 100000 in
set_option maxHeartbeats 4000000 in
theorem chunk1_in (F : Fence) (n : Nat) (h7 : F.fn 15) (hro : F.round = none) (hn : 1 ≤ n) (l Bx Bn : Nat) (a : Option Addr) (len cap : Nat) (hlc : len ≤ cap) (hle : len ≤ 1000000) (ha : 0 < len → ∃ b o, a = some ⟨b, o, none⟩) (J Jx : List (CI len) → World → Prop)
    (hJd : ∀ s W, J s W → J s W.drew)
    (hY : ∀ pre x W, J pre W → pre.length < nblk len → YieldAt F (n - 1) Try.prog l #[ckV a len x.1] W fun e W' =>
      (e = .returned (.bool true) ∧ J (pre ++ [x]) W' ∧ (W'.heap[Bx]? = W.heap[Bx]? ∧ W'.heap[Bn]? = W.heap[Bn]?)) ∨ (e = .returned (.bool false) ∧ Jx (pre ++ [x]) W'))
    (W : World) (hBx : Boxed W Bx 22 (.slice a len cap)) (hBn : Boxed W Bn 3 (.int .i64 128)) (h0 : J [] W) :
    CallsIn F n Try.prog 15 #[.func (.yield l) #[] #[], .pointer (some ⟨Bx, 0, none⟩), .pointer (some ⟨Bn, 0, none⟩)] W fun e W' => (∃ v, e = .returned v) ∧
      ((∃ ys, ys.map (·.1) = List.range (nblk len) ∧ J ys W') ∨ (∃ pre, True ∧ Jx pre W')) := by
  refine callsIn_of_wp Try.func15 rfl h7 ?_ hro
  simp only [Try.ntmps15, List.size_toArray, List.length_cons, List.length_nil, Nat.reduceAdd, Nat.reduceSub, Array.replicate_succ, Array.replicate_zero, List.push_toArray, List.append_toArray, List.nil_append, List.cons_append]
  gi_wp2
  gi_loopw [4] (fun i wr => ∃ (k : Nat) (pre : List (CI len)), k ≤ nblk len ∧ i = .int .i64 ((128 * k : Nat) : Int) ∧ pre.map (·.1) = List.range k ∧ J pre wr ∧ Boxed wr Bx 22 (.slice a len cap) ∧ Boxed wr Bn 3 (.int .i64 128))
    (fun i _ => len + 128 - (intOf i).toNat)
  case atStart => exact ⟨0, [], Nat.zero_le _, rfl, rfl, h0, hBx, hBn⟩
  case round =>
    obtain ⟨k, pre, hk, rfl, hpre, hJs, hX, hN⟩ := hrel
    have hcx := hX.cell
    have hcn := hN.cell
    have hkb : 128 * k ≤ 1000128 := by unfold nblk at hk; omega
    by_cases hlt : 128 * k < len
    · have hkn : k < nblk len := by unfold nblk; omega
      have hkn1 : k + 1 ≤ nblk len := hkn
      obtain ⟨x, hx⟩ : ∃ x : CI len, x.1 = k := ⟨⟨k, hlt⟩, rfl⟩
      obtain ⟨fn, tmps, assign, body, hy, hR⟩ := hY pre x wr.drew (hJd _ _ hJs) (by rw [← List.length_map (f := (·.1)), hpre, List.length_range]; exact hkn)
      obtain ⟨b, o, rfl⟩ := ha (by omega)
      rw [hx] at hy
      have HPRE := Lib.hid (show (pre ++ [x]).map (·.1) = List.range (k + 1) by rw [List.map_append, hpre, List.range_succ, ← hx]; rfl)
      have HX := Lib.hid hX
      have HNB := Lib.hid hN
      have hcap : ¬ cap = 128 * k := by omega
      have e1 : ((128 * k : Nat) : Int) < (len : Int) := by omega
      have e2 : (0 : Int) ≤ ((128 * k : Nat) : Int) := by omega
      have e3 : 128 * k ≤ cap := by omega
      have HK1 := Lib.hid (show 128 * k + 128 = 128 * (k + 1) by omega)
      clear hx hpre hX hN hBx hBn ha hY hJs
      rcases Nat.lt_or_ge (len - 128 * k) 128 with hm | hm
      · have e4 : ((len - 128 * k : Nat) : Int) < 128 := by omega
        have e5 : 128 * k + (len - 128 * k) = len := by omega
        rw [ckV_at b o len k (len - 128 * k) (by omega)] at hy
        generalize 128 * k = K at *
        clear hm
        gi_wp2
        gi_region
        all_goals
          gi_wp2
          refine hR.mono ?_
          rintro e W3 (⟨rfl, hJ3, hx3, hn3⟩ | ⟨rfl, hJx3⟩)
          · have hcx3 := (show Boxed W3 Bx 22 (.slice (some ⟨b, o, none⟩) len cap) from hx3.trans HX.out).cell
            have hcn3 := (show Boxed W3 Bn 3 (.int .i64 128) from hn3.trans HNB.out).cell
            have HX3 := Lib.hid (show Boxed W3 Bx 22 (.slice (some ⟨b, o, none⟩) len cap) from hx3.trans HX.out)
            have HN3 := Lib.hid (show Boxed W3 Bn 3 (.int .i64 128) from hn3.trans HNB.out)
            clear hx3 hn3 HX HNB
            gi_wp2
            go_roundw
            case rel => exact ⟨k + 1, _, hkn1, by rw [← HK1.out]; go_num, HPRE.out, hJ3, HX3.out, HN3.out⟩
            case measure => simp [intOf]; omega
          · gi_wp2
            refine bodyPost_ret (results_none rfl _ _ _) rfl ?_
            exact ⟨⟨_, rfl⟩, .inr ⟨_, trivial, hJx3⟩⟩
      · have e4 : ¬ ((len - 128 * k : Nat) : Int) < 128 := by omega
        have e6 : (128 : Int) ≤ ((len - 128 * k : Nat) : Int) := by omega
        have e5 : 128 * k + 128 ≤ len := by omega
        rw [ckV_at b o len k 128 (by omega)] at hy
        generalize 128 * k = K at *
        clear hm
        gi_wp2
        gi_region
        all_goals
          gi_wp2
          refine hR.mono ?_
          rintro e W3 (⟨rfl, hJ3, hx3, hn3⟩ | ⟨rfl, hJx3⟩)
          · have hcx3 := (show Boxed W3 Bx 22 (.slice (some ⟨b, o, none⟩) len cap) from hx3.trans HX.out).cell
            have hcn3 := (show Boxed W3 Bn 3 (.int .i64 128) from hn3.trans HNB.out).cell
            have HX3 := Lib.hid (show Boxed W3 Bx 22 (.slice (some ⟨b, o, none⟩) len cap) from hx3.trans HX.out)
            have HN3 := Lib.hid (show Boxed W3 Bn 3 (.int .i64 128) from hn3.trans HNB.out)
            clear hx3 hn3 HX HNB
            gi_wp2
            go_roundw
            case rel => exact ⟨k + 1, _, hkn1, by rw [← HK1.out]; go_num, HPRE.out, hJ3, HX3.out, HN3.out⟩
            case measure => simp [intOf]; omega
          · gi_wp2
            refine bodyPost_ret (results_none rfl _ _ _) rfl ?_
            exact ⟨⟨_, rfl⟩, .inr ⟨_, trivial, hJx3⟩⟩
    · obtain rfl : k = nblk len := by unfold nblk at hk ⊢; omega
      have hnlt : ¬ ((128 * nblk len : Nat) : Int) < (len : Int) := by omega
      gi_wp2
      go_end0
      exact ⟨⟨_, rfl⟩, .inl ⟨_, hpre, hJs⟩⟩
end Go.Proofs.Ytklckjmlifddjaa
