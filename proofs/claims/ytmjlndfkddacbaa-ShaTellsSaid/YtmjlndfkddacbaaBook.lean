/- Contracts of permafrostbook.Same, Intact, Roomy at bytes. -/
import Derived.Test.YtmjlndfkddacbaaMem
import Derived.Test.YtmjlndfkddacbaaCodecLaw
import Derived.Laws.CopyOwn
import Derived.Deep.DeepCutAuto
namespace Go.Proofs.Ytmjlndfkddacbaa
open Go.RowKit

/-- a byte of a slice, at the address that the walk reckons -/
theorem Bs.at {w : World} {a : Option Addr} {len cap : Nat} {xs : List UInt8} (h : Bs w a len cap xs) (h0 : 0 < len) : ∃ b off, a = some ⟨b, off, none⟩ ∧ b < w.heap.size ∧ ∀ i (h : i < xs.length), w.cell? ⟨b, off + i, none⟩ = some (.int .u8 (xs[i].toNat : Int)) := by
  rcases h.2.2.2 with h1 | h1
  · omega
  · exact h1
set_option maxRecDepth 100000 in
theorem same_bytes (a : Option Addr) (ca : Nat) (b : Option Addr) (cb len : Nat) (xs : List UInt8) (w : World) (hA : Bs w a len ca xs) (hB : Bs w b len cb xs) (hl : len ≤ 100000000) :
    Calls Try.prog 67 #[.slice a len ca, .slice b len cb] w fun e w' => e = .returned (.bool true) ∧ Below w.heap.size w w' := by
  have hxl := hA.1
  have hx0 : ((len : Int) != (len : Int)) = false := by simp
  have HA := Lib.hid hA
  have HB := Lib.hid hB
  clear hA hB
  go_enter Try.func67, Try.ntmps67
  go_wp2_with fail
  go_loopw [5] (fun i wr => ∃ k : Nat, k ≤ len ∧ i = .int .i64 k ∧ Ext w.heap.size w wr) (fun i _ => len - (intOf i).toNat)
  case atStart => exact ⟨0, by omega, rfl, Ext.refl w⟩
  case round =>
    obtain ⟨k, hk, rfl, hE⟩ := hrel
    by_cases hlt : k < len
    · obtain ⟨p, o1, rfl, hp, hc1⟩ := HA.out.at (by omega)
      obtain ⟨q, o2, rfl, hq, hc2⟩ := HB.out.at (by omega)
      have c1 := (hE.1.cell (p := ⟨p, o1 + k, none⟩) hp).trans (hc1 k (by omega))
      have c2 := (hE.1.cell (p := ⟨q, o2 + k, none⟩) hq).trans (hc2 k (by omega))
      have hne : (((xs[k]).toNat : Int) != ((xs[k]).toNat : Int)) = false := by simp
      have hk0 : (0 : Int) ≤ (k : Int) := by omega
      have hkl : (k : Int) < (len : Int) := by omega
      generalize xs[k] = x at *
      clear hc1 hc2
      go_wp2_with fail
      go_region
      go_wp2_with fail
      go_roundw
      case rel => exact ⟨k + 1, by omega, by go_num, hE.drew⟩
      case measure => simp [intOf]; omega
    · obtain rfl : k = len := by omega
      go_wp2_with fail
      go_ret
      exact ⟨rfl, hE.1⟩

set_option maxRecDepth 100000 in
theorem intact_bytes (a : Option Addr) (ca : Nat) (b : Option Addr) (cb len : Nat) (xs : List UInt8) (w : World) (hA : Bs w a (len + 80) ca (xs ++ List.replicate 80 165)) (hB : Bs w b len cb xs) (hl : len ≤ 100000000) :
    Calls Try.prog 34 #[.slice a ((len + 80 : Nat)) ca, .slice b len cb, .int .u8 165] w fun e w' => e = .returned (.bool true) ∧ Below w.heap.size w w' := by
  have hxl := hB.1
  obtain ⟨N, hN⟩ : ∃ N, N = len + 80 := ⟨_, rfl⟩
  rw [← hN] at hA ⊢
  have hNw : IntKind.i64.wrap ((len : Int) + 80) = (N : Int) := by rw [IntWalk.i64_in _ (by omega)]; omega
  have hx0 : ((N : Int) != (N : Int)) = false := by simp
  have hT := hA.take (k := len) (by omega)
  rw [List.take_left' hxl] at hT
  have HS := Lib.hid (same_bytes a ca b cb len xs w hT hB hl)
  have hNc : (len : Int) ≤ (ca : Int) := by have := hA.2.1; omega
  have HA := Lib.hid hA
  have HN := Lib.hid hN
  have hl0 : (0 : Int) ≤ (len : Int) := by omega
  have hNb : N ≤ 100000080 := by omega
  clear hA hB hT hN
  go_enter Try.func34, Try.ntmps34
  go_wp2_with fail
  refine HS.out.mono ?_
  rintro e w1 ⟨rfl, hb1⟩
  have hE1 := (Ext.refl w).step hb1
  clear HS hb1
  go_wp2_with fail
  go_loopw [7] (fun i wr => ∃ k : Nat, len ≤ k ∧ k ≤ N ∧ i = .int .i64 k ∧ Ext w.heap.size w wr) (fun i _ => N - (intOf i).toNat)
  case atStart => exact ⟨len, by omega, by have := HN.out; omega, rfl, hE1⟩
  case round =>
    obtain ⟨k, hk1, hk, rfl, hE⟩ := hrel
    clear hE1
    by_cases hlt : k < N
    · have hNN := HN.out
      obtain ⟨p, o1, rfl, hp, hc1⟩ := HA.out.at (by omega)
      have hx := hc1 k (by simp; omega)
      have hv : (xs ++ List.replicate 80 (165 : UInt8))[k]'(by simp; omega) = 165 := by rw [List.getElem_append_right (by omega), List.getElem_replicate]
      rw [hv] at hx
      have c1 := (hE.1.cell (p := ⟨p, o1 + k, none⟩) hp).trans hx
      rw [show ((165 : UInt8).toNat : Int) = 165 from rfl] at c1
      have hk0 : (0 : Int) ≤ (k : Int) := by omega
      have hkl : (k : Int) < (N : Int) := by omega
      clear hc1 hx hv hNN
      go_wp2_with fail
      go_roundw
      case rel => exact ⟨k + 1, by omega, by omega, by go_num, hE⟩
      case measure => simp [intOf]; omega
    · obtain rfl : k = N := by omega
      go_wp2_with fail
      go_ret
      exact ⟨rfl, hE.1⟩

set_option maxHeartbeats 1000000 in
set_option maxRecDepth 100000 in
theorem roomy_bytes (a : Option Addr) (ca len : Nat) (xs : List UInt8) (w : World) (hA : Bs w a len ca xs) (hl : len ≤ 1000000) :
    Calls Try.prog 33 #[.slice a len ca, .int .u8 165] w fun e w' => ∃ v, e = .returned v ∧ Own w' w.heap.size v (xs ++ List.replicate 80 165) ∧ Below w.heap.size w w' := by
  have hxl := hA.1
  obtain ⟨N, hN⟩ : ∃ N, N = len + 80 := ⟨_, rfl⟩
  have hNw : IntKind.i64.wrap ((len : Int) + 80) = (N : Int) := by rw [IntWalk.i64_in _ (by omega)]; omega
  have hmk : ∀ W, (Instr.makeSlice 25 (.int .i64 (N : Int)) (.int .i64 (N : Int))).run Try.prog W = .ok (.slice (some ⟨W.heap.size, 0, none⟩) N N) (W.alloc (.cells (madeCells #[.int .u8 0] N) TB)) := fun W => run_make_bytes N (by omega) W
  have hNb : N ≤ 1000080 := by omega
  have hR0 := Row.zero w N (by unfold maxLen; omega)
  have hE0 := (Ext.refl w).alloc (.cells (madeCells #[.int .u8 0] N) TB)
  have hA1 := hA.alloc (.cells (madeCells #[.int .u8 0] N) TB)
  obtain ⟨G, hG⟩ : ∃ G, G = w.heap.size := ⟨_, rfl⟩
  rw [← hG] at hR0 hE0 ⊢
  have HG := Lib.hid hG
  have HN := Lib.hid hN
  clear hA hN hG
  go_enter Try.func33, Try.ntmps33
  go_upto_region 2 with fail
  rw [← HG.out]
  generalize w.alloc (.cells (madeCells #[.int .u8 0] N) TB) = w1 at *
  go_cut [13] (fun _ wx => Row wx G N (xs ++ List.replicate 80 0) ∧ Ext G w wx)
  case first =>
    have hNN := HN.out
    rcases Nat.eq_zero_or_pos len with h0 | h0
    · obtain rfl : xs = [] := List.length_eq_zero_iff.1 (by omega)
      subst h0
      go_wp2_with (refine wpList_copy_nothing rfl (.tmp 11) (.tmp 12) 25 25 rfl 5 Try.underlying25 ?a1 (some ⟨G, 0, none⟩) a N N 0 ca rfl rfl ?a2 ?a3)
      case a1 => kernel_rfl
      case a2 => exact Nat.zero_min _
      go_meet
      exact ⟨by simpa [hNN] using hR0, hE0⟩
    · obtain ⟨cur, hcur, hsz, _, hcap, htk⟩ := hR0
      obtain ⟨ad, rfl, hnews⟩ : ∃ ad, a = some ad ∧ ∀ j u, (xs.map bv)[j]? = some u → w1.cell? (ad.add j) = some u := by
        rcases hA1.news with ⟨_, h1, _⟩ | h1
        · omega
        · exact h1
      have hcl : cur.toList = (List.replicate N (0 : UInt8)).map bv := by
        rw [List.length_replicate] at htk
        rw [← htk, List.take_of_length_le (by simp; omega)]
      have hrow : Row (w1.setRow G ((xs.map bv) ++ cur.toList.drop len).toArray) G N (xs ++ List.replicate 80 0) := by
        refine ⟨_, setRow_heap w1 G cur _ TB (0, 0) hcur, ?_, by simp; omega, hcap, ?_⟩
        · simp; omega
        · rw [hcl, List.take_of_length_le (by simp; omega)]
          rw [List.map_append, ← List.map_drop, List.drop_replicate, show N - len = 80 by omega]
      have hEr : Ext G w (w1.setRow G ((xs.map bv) ++ cur.toList.drop len).toArray) := ⟨below_setRow hE0.1 (Nat.le_refl _) _, by rw [size_setRow]; exact hE0.2⟩
      have HRE := Lib.hid (And.intro hrow hEr)
      have hml : (xs.map bv).length = len := by rw [List.length_map, hxl]
      clear hrow hEr hcl
      go_wp2_with (refine wpList_copy_own rfl (.tmp 11) (.tmp 12) 25 25 rfl 5 Try.underlying25 ?b1 G 0 N N ad len ca rfl rfl cur TB hcur (xs.map bv) ?b2 hnews ?b3 ?b4 ?b5)
      case b1 => kernel_rfl
      case b2 => rw [hml]; exact (Nat.min_eq_left (by omega)).symm
      case b3 => rw [hml]; omega
      case b4 =>
        intro v hv
        obtain ⟨y, _, rfl⟩ := List.mem_map.1 hv
        rfl
      go_meet
      simp only [hml, Nat.zero_add, List.take_zero, List.nil_append]
      exact HRE.out
  case rest =>
    obtain ⟨hR, hE⟩ := hcut
    clear hR0 hE0 hA1
    have hNN := HN.out
    go_wp2_with fail
    go_loopw [6] (fun i wr => ∃ k : Nat, len ≤ k ∧ k ≤ N ∧ i = .int .i64 k ∧ Row wr G N (xs ++ (List.replicate (k - len) 165 ++ List.replicate (N - k) 0)) ∧ Ext G w wr) (fun i _ => N - (intOf i).toNat)
    case atStart => exact ⟨len, by omega, by omega, rfl, by rw [Nat.sub_self, show N - len = 80 by omega]; simpa using hR, hE⟩
    case round =>
      obtain ⟨k, hk1, hk, rfl, hRk, hEk⟩ := hrel
      clear hR hE hNN
      by_cases hlt : k < N
      · have hNN := HN.out
        have hset : (xs ++ (List.replicate (k - len) (165 : UInt8) ++ List.replicate (N - k) 0)).set k 165 = xs ++ (List.replicate (k + 1 - len) 165 ++ List.replicate (N - (k + 1)) 0) := by
          refine List.ext_getElem (by simp; omega) fun i h1 h2 => ?_
          simp only [List.getElem_set, List.getElem_append, List.getElem_replicate, List.length_replicate]
          repeat' split
          all_goals first | rfl | omega
        obtain ⟨old, hcell⟩ : ∃ x : UInt8, wr.cell? ⟨G, k, none⟩ = some (.int .u8 (x.toNat : Int)) := ⟨_, hRk.cell k (by simp; omega)⟩
        have hfz := hRk.frozen k
        have hR2 := hRk.set k 165
        rw [hset, show ((165 : UInt8).toNat : Int) = 165 from rfl] at hR2
        have hE2 := hEk.setCell (p := ⟨G, k, none⟩) (Nat.le_refl _) (.int .u8 165)
        have hk0 : (0 : Int) ≤ (k : Int) := by omega
        have hkl : (k : Int) < (N : Int) := by omega
        clear hset hNN hRk hEk
        go_wp2_with fail
        go_roundw
        case rel => exact ⟨k + 1, by omega, by omega, by go_num, hR2, hE2⟩
        case measure => simp [intOf]; omega
      · obtain rfl : k = N := by omega
        go_wp2_with fail
        go_ret
        have hl : (xs ++ List.replicate 80 (165 : UInt8)).length = k := by have := HN.out; simp; omega
        refine ⟨_, rfl, ?_, hEk.1⟩
        have h3 := Own.of_row hRk (Nat.le_refl _)
        rw [Nat.sub_self, List.replicate_zero, List.append_nil, show k - len = 80 by have := HN.out; omega, hl] at h3
        exact h3
end Go.Proofs.Ytmjlndfkddacbaa
