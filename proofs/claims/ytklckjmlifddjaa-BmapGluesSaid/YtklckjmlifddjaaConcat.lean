/- slices.Grow and slices.Concat at []byte: the rows of a list, one behind the other, in a row of one's own. -/
import Derived.Test.YtklckjmlifddjaaML
import Derived.Test.YtklckjmlifddjaaAZ
import Derived.Lib.AppendZeros
import Derived.Deep.CutBlock
import Derived.Deep.DeepCutAuto
import Derived.RangeFuncRecord
namespace Go.Proofs.Ytklckjmlifddjaa
open Go.RowKit

theorem run_grow_zeros (w : World) (ty : TypeId) (n : Nat) (h0 : 0 < n) (hn : n ≤ 1000000) :
    ∃ cap w', (Builtin.append_ #[22, 3] ty #[.slice none 0 0, .int .i64 (n : Int)]).run Try.prog w = .ok (.slice (some ⟨w.heap.size, 0, none⟩) n cap) w' ∧ Row w' w.heap.size cap [] ∧ n ≤ cap ∧ Below w.heap.size w w' := by
  obtain ⟨i, hi, hz0, hz1, hz2⟩ := info_parts infoTB
  have hr := Lib.run_append_nil_zeros (P := Try.prog) w 22 3 ty TB i (.int .u8 0) .i64 .i64 Try.underlying22 Try.underlying3 hi hz0 n h0 (by omega) (by omega) (by rw [hz2]; omega)
  refine ⟨_, _, hr, ?_, grownCap_ge _ _ _ _, ((Below.refl _ w).drew).alloc (by simp) _⟩
  have h1 : (w.drew.alloc (.cells (Builtin.zeroCells (Value.int .u8 0).cells n ++ Builtin.zeroCells (Value.int .u8 0).cells (grownCap w n 0 TB - n)) TB)).heap[w.heap.size]? = some (.cells (Builtin.zeroCells (Value.int .u8 0).cells n ++ Builtin.zeroCells (Value.int .u8 0).cells (grownCap w n 0 TB - n)) TB (0, 0)) := by
    have := World.alloc_heap_new w.drew (.cells (Builtin.zeroCells (Value.int .u8 0).cells n ++ Builtin.zeroCells (Value.int .u8 0).cells (grownCap w n 0 TB - n)) TB)
    simpa using this
  have h2 := grownCap_ge w n 0 TB
  exact ⟨_, h1, by simp [Builtin.zeroCells, Value.cells]; omega, Nat.zero_le _, grownCap_le_maxLen _ _ _ _ (by unfold maxLen; omega), by simp⟩

set_option maxHeartbeats 1000000 in
set_option maxRecDepth 100000 in
theorem grow_any (n : Nat) (w : World) (hn : n ≤ 1000000) :
    Calls Try.prog 16 #[.slice none 0 0, .int .i64 (n : Int)] w fun e w' => ∃ v, e = .returned v ∧ Own w' w.heap.size v [] ∧ Below w.heap.size w w' := by
  obtain ⟨H, hH⟩ : ∃ H, H = w.heap.size := ⟨_, rfl⟩
  rcases Nat.eq_zero_or_pos n with rfl | h0
  · go_enter Try.func16, Try.ntmps16
    go_wp2_with fail
    go_ret
    exact ⟨_, rfl, Own.nil _ _, Below.refl _ _⟩
  · have e1 : ¬ (n : Int) < 0 := by omega
    have e2 : (0 : Int) < (n : Int) := by omega
    have e3 : IntKind.i64.wrap (n : Int) = (n : Int) := by rw [IntWalk.i64_in _ (by omega)]
    obtain ⟨cap, w1, hr, hR, hc, hb⟩ := run_grow_zeros w 22 n h0 hn
    have HR := Lib.hid hR
    have HBl := Lib.hid hb
    go_enter Try.func16, Try.ntmps16
    go_wp2_with (at_builtin; refine Lib.wpList_append_run _ rfl _ _ _ _ rfl _ _ rfl rfl _ _ hr ?_)
    go_ret
    refine ⟨_, rfl, ?_, HBl.out⟩
    have := Own.of_row HR.out (Nat.le_refl w.heap.size)
    simpa using this

theorem Own.ofs {w : World} {B : Nat} {v : Value} {xs : List UInt8} (h : Own w B v xs) : ∀ k, v.ownBlock = some k → B ≤ k := by
  intro k hk
  rcases h.parts with ⟨rfl, _⟩ | ⟨g, cap, rfl, h2, _⟩
  · simp [Value.ownBlock] at hk
  · simp [Value.ownBlock] at hk; omega
theorem flat_succ (ls : List (List UInt8)) (k : Nat) (h : k < ls.length) : (ls.take (k + 1)).flatten = (ls.take k).flatten ++ ls.getD k [] := by
  rw [List.take_succ_eq_append_getElem h, List.flatten_append]
  simp [List.getD_eq_getElem?_getD, List.getElem?_eq_getElem h]
theorem flat_le (ls : List (List UInt8)) (k : Nat) : (ls.take k).flatten.length ≤ ls.flatten.length := by
  conv => rhs; rw [← List.take_append_drop k ls]
  rw [List.flatten_append, List.length_append]; omega

set_option maxHeartbeats 2000000 in
set_option maxRecDepth 100000 in
theorem concat_any (n cap : Nat) (a : Option Addr) (ls : List (List UInt8)) (w : World) (hL : LL w a n cap ls) (hn : n ≤ 100000) (hl : ls.flatten.length ≤ 1000000) :
    Calls Try.prog 12 #[.slice a n cap] w fun e w' => ∃ v, e = .returned v ∧ Own w' w.heap.size v ls.flatten ∧ Below w.heap.size w w' := by
  have hE := Ext.refl w
  obtain ⟨H, hH⟩ : ∃ H, H = w.heap.size := ⟨_, rfl⟩
  rw [← hH] at hE ⊢
  have HH := Lib.hid hH
  have HL := Lib.hid hL
  have HN := Lib.hid hL.1
  have HF := Lib.hid hl
  clear hH hL hl
  go_enter Try.func12, Try.ntmps12
  go_upto_block 0 with fail
  go_cut [3] (fun s wr => s = .int .i64 (ls.flatten.length : Int) ∧ wr = w)
  case first =>
    go_wp2_with fail
    go_loopw [3, 11] (fun s i wr => ∃ k S : Nat, k ≤ n ∧ i = .int .i64 k ∧ s = .int .i64 (S : Int) ∧ S = (ls.take k).flatten.length ∧ wr = w) (fun _ i _ => n - (intOf i).toNat)
    case atStart => exact ⟨0, 0, by omega, rfl, rfl, rfl, rfl⟩
    case round =>
      obtain ⟨k, S, hk, rfl, rfl, hS, rfl⟩ := hrel
      have HS := Lib.hid hS
      clear hS
      by_cases hlt : k < n
      · obtain ⟨b, off, rfl, hbw, hc⟩ := HL.out.at (by omega)
        obtain ⟨a', m, c, hcell, hB⟩ := hc k hlt
        have hsum : S + m ≤ 1000000 ∧ S + m = (ls.take (k + 1)).flatten.length := by
          have h1 := flat_succ ls k (by rw [HN.out]; exact hlt)
          have h2 := flat_le ls (k + 1)
          have h3 := congrArg List.length h1
          rw [List.length_append, ← HS.out, hB.1] at h3
          have := HF.out
          omega
        obtain ⟨hs1, hs2⟩ := hsum
        have HS2 := Lib.hid hs2
        clear hc hB hs2
        have e1 : (0 : Int) ≤ (k : Int) := by omega
        have e2 : (k : Int) < (n : Int) := by omega
        have e3 : ¬ ((S : Int) + (m : Int)) < 0 := by omega
        go_wp2_with fail
        go_roundw
        case rel => exact ⟨k + 1, S + m, by omega, by go_num, by go_num, HS2.out, trivial⟩
        case measure => simp [intOf]; omega
      · obtain rfl : k = n := by omega
        have htk : ls.take k = ls := List.take_of_length_le (by rw [HN.out]; omega)
        go_wp2_with fail
        go_meet
        exact ⟨by rw [HS.out, htk], rfl⟩
  case rest =>
    obtain ⟨rfl, rfl⟩ := hcut
    have HG := Lib.hid (grow_any ls.flatten.length wc HF.out)
    obtain ⟨F, hF⟩ : ∃ F, F = ls.flatten.length := ⟨_, rfl⟩
    rw [← hF] at HG ⊢
    have HFL := Lib.hid hF
    clear hF
    go_wp2_with fail
    refine HG.out.mono ?_
    rintro e w1 ⟨v0, rfl, hO, hb⟩
    rw [← HH.out] at hO
    have hE1 := hE.step hb
    clear hb HG hE
    go_wp2_with fail
    go_loopw [6, 27] (fun s i wx => ∃ k : Nat, k ≤ n ∧ i = .int .i64 k ∧ Own wx H s (ls.take k).flatten ∧ Ext H wc wx) (fun _ i _ => n - (intOf i).toNat)
    case atStart => exact ⟨0, by omega, rfl, hO, hE1⟩
    case round =>
      obtain ⟨k, hk, rfl, hOk, hEk⟩ := hrel
      clear hO hE1
      by_cases hlt : k < n
      · obtain ⟨b, off, rfl, hbw, hc⟩ := HL.out.at (by omega)
        obtain ⟨a', m, c, hcell, hB⟩ := hc k hlt
        have hcell' := (hEk.1.cell (p := ⟨b, off + k, none⟩) (by rw [HH.out]; exact hbw)).trans hcell
        have hB' := hB.below (by rw [← HH.out]; exact hEk.1)
        have hsum : (ls.take k).flatten.length + m ≤ 140737488355328 := by
          have h2 := flat_le ls k
          have h3 := hB.1
          have h4 : (ls.getD k []).length ≤ ls.flatten.length := by
            have h1 := flat_succ ls k (by rw [HN.out]; exact hlt)
            have h2 := flat_le ls (k + 1)
            have h3 := congrArg List.length h1
            rw [List.length_append] at h3
            omega
          have := HF.out
          omega
        have HB' := Lib.hid hB'
        have HO := Lib.hid hOk
        have HS := Lib.hid hsum
        have HE := Lib.hid hEk
        have HC := Lib.hid (flat_succ ls k (by rw [HN.out]; exact hlt))
        clear hc hB hcell hB' hOk hsum hEk
        have e1 : (0 : Int) ≤ (k : Int) := by omega
        have e2 : (k : Int) < (n : Int) := by omega
        go_wp2_with (at_builtin; refine wpList_append_at rfl _ _ rfl H _ _ rfl HO.out a' m c _ rfl HB'.out HS.out HE.out.2 ?_; intro v' W1 h1 h2 _)
        have hE2 := HE.out.grown h2 HO.out.ofs
        rw [← HC.out] at h1
        go_roundw
        case rel => exact ⟨k + 1, by omega, by go_num, h1, hE2⟩
        case measure => simp [intOf]; omega
      · obtain rfl : k = n := by omega
        have htk : ls.take k = ls := List.take_of_length_le (by rw [HN.out]; omega)
        rw [htk] at hOk
        go_wp2_with fail
        go_ret
        exact ⟨_, rfl, hOk, hEk.1⟩
end Go.Proofs.Ytklckjmlifddjaa
