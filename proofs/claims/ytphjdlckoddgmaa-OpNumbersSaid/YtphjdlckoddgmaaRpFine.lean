/- Replies that came in; the contract of op.fine. -/
import Derived.Test.YtphjdlckoddgmaaStrs
import Derived.Test.YtphjdlckoddgmaaOpReply
import Derived.Test.YtphjdlckoddgmaaDecI
import Derived.Test.YtphjdlckoddgmaaTools2
import Derived.Test.YtphjdlckoddgmaaNodeInv
import Derived.Test.YtphjdlckoddgmaaOpAsks
import Derived.Deep.DeepCutAuto
namespace Go.Proofs.Ytphjdlckoddgmaa
open Go.RowKit

def rpCells (e n : Int) (da : Option Addr) (dl dc : Nat) (na : Option Addr) (nl nc : Nat) (nd : Nd) : Array Value :=
  #[.int .i64 e, .int .i64 n, .slice da dl dc, .slice na nl nc, .int .i64 nd.id, .int .i64 nd.kind, .int .i64 nd.links, .int .i64 nd.size, .int .u64 (nd.til : Int), .bool nd.closed]

set_option maxHeartbeats 400000 in
theorem fine1_any (s : List UInt8) (w : World) : Calls Try.prog 79 #[.string (strOf s)] w fun e w' => e = .returned (.bool (decide (16 < s.length))) ∧ w = w' := by
  have hs : (strOf s).size = s.length := rfl
  go_enter Try.func79, Try.ntmps79
  go_wp2
  all_goals go_ret
  all_goals refine ⟨ret_bool ?_, rfl⟩
  all_goals (rw [Bool.eq_iff_iff]; simp; omega)

/-- where the first too long one is -/
def longAt (ls : List (List UInt8)) : Int := match ls.findIdx? (fun s => decide (16 < s.length)) with | some i => (i : Int) | none => -1
theorem longAt_iff (ls : List (List UInt8)) : decide (longAt ls ≥ 0) = !decide (∀ s ∈ ls, s.length ≤ 16) := by
  unfold longAt
  cases h : ls.findIdx? (fun s => decide (16 < s.length)) with
  | none =>
    rw [List.findIdx?_eq_none_iff] at h
    have : ∀ s ∈ ls, s.length ≤ 16 := fun s hs => by have := h s hs; simp at this; exact this
    simp
    exact this
  | some i =>
    rw [List.findIdx?_eq_some_iff_getElem] at h
    obtain ⟨hi, h1, _⟩ := h
    have : ¬ ∀ s ∈ ls, s.length ≤ 16 := fun hc => by have := hc _ (List.getElem_mem hi); simp at h1; omega
    simp
    simp at this
    exact this

set_option maxHeartbeats 1000000 in
set_option maxRecDepth 100000 in
theorem idx_any (na : Option Addr) (nl nc : Nat) (ls : List (List UInt8)) (w : World) (h : Ss w na nl nc ls) : Calls Try.prog 83 #[.slice na nl nc, .func (.func 79) #[] #[]] w fun e w' => e = .returned (.int .i64 (longAt ls)) ∧ Below w.heap.size w w' := by
  have hxl := h.1
  have hcap := h.2.1
  have hmx : nc ≤ 9223372036854775807 := Nat.le_trans h.2.2.1 (by unfold maxLen; decide)
  have HS := Lib.hid h
  clear h
  go_enter Try.func83, Try.ntmps83
  go_wp2_with fail
  go_loopw [8] (fun i wr => ∃ k : Nat, k ≤ nl ∧ i = .int .i64 k ∧ (∀ j (hj : j < ls.length), j < k → ls[j].length ≤ 16) ∧ Ext w.heap.size w wr) (fun i _ => nl - (intOf i).toNat)
  case atStart => exact ⟨0, by omega, rfl, by omega, Ext.refl w⟩
  case round =>
    obtain ⟨k, hk, rfl, hle, hE⟩ := hrel
    by_cases hlt : k < nl
    · obtain ⟨p, o1, rfl, hp, hc1⟩ := HS.out.at (by omega)
      have c1 := (hE.1.cell (p := ⟨p, o1 + k, none⟩) hp).trans (hc1 k (by omega))
      have hk0 : (0 : Int) ≤ (k : Int) := by omega
      have hkl : (k : Int) < (nl : Int) := by omega
      have hkn : k < ls.length := by omega
      have HK := Lib.hid (fun (hx : ls[k].length ≤ 16) j (hj : j < ls.length) (hjk : j < k + 1) => show ls[j].length ≤ 16 from by
        rcases Nat.lt_or_ge j k with h | h
        · exact hle j hj h
        · obtain rfl : j = k := by omega
          exact hx)
      have hf : 16 < ls[k].length → longAt ls = (k : Int) := fun hx => by
        unfold longAt
        have : ls.findIdx? (fun s => decide (16 < s.length)) = some k := by
          rw [List.findIdx?_eq_some_iff_getElem]
          exact ⟨hkn, by simpa using hx, fun j hj => by have := hle j (by omega) hj; simpa using this⟩
        rw [this]
      have HF := Lib.hid hf
      clear hf
      generalize ls[k] = s at *
      clear hc1 hle
      go_wp2_with fail
      refine (fine1_any s _).mono ?_
      rintro e w1 ⟨rfl, rfl⟩
      by_cases hx : 16 < s.length
      · rw [decide_eq_true hx]
        go_wp2_with fail
        go_ret
        exact ⟨ret_int (HF.out hx).symm, hE.1⟩
      · rw [decide_eq_false hx]
        go_wp2_with fail
        go_roundw
        case rel => exact ⟨k + 1, by omega, by go_num, HK.out (by omega), hE⟩
        case measure => simp [intOf]; omega
    · obtain rfl : k = nl := by omega
      have hno : longAt ls = -1 := by
        unfold longAt
        have : ls.findIdx? (fun s => decide (16 < s.length)) = none := by
          rw [List.findIdx?_eq_none_iff]
          intro s hs
          obtain ⟨j, hj, rfl⟩ := List.getElem_of_mem hs
          have := hle j hj (by omega)
          simpa using this
        rw [this]
      have HN := Lib.hid hno
      clear hno hle
      go_wp2_with fail
      go_ret
      exact ⟨ret_int HN.out.symm, hE.1⟩

set_option maxHeartbeats 1000000 in
set_option maxRecDepth 100000 in
theorem contains_any (na : Option Addr) (nl nc : Nat) (ls : List (List UInt8)) (w : World) (h : Ss w na nl nc ls) :
    Calls Try.prog 78 #[.slice na nl nc, .func (.func 79) #[] #[]] w fun e w' => e = .returned (.bool (!decide (∀ s ∈ ls, s.length ≤ 16))) ∧ Below w.heap.size w w' := by
  have hl := longAt_iff ls
  generalize (!decide (∀ s ∈ ls, s.length ≤ 16)) = b at *
  have HL := Lib.hid hl
  have HI := Lib.hid (fun w h => idx_any na nl nc ls w h)
  generalize longAt ls = l at *
  clear hl
  go_enter Try.func78, Try.ntmps78
  go_wp2_with fail
  refine (HI.out _ h).mono ?_
  rintro e w1 ⟨rfl, hb⟩
  go_wp2_with fail
  go_ret
  exact ⟨ret_bool HL.out, hb⟩

set_option maxHeartbeats 4000000 in
set_option maxRecDepth 100000 in
theorem fine_any (e n : Int) (da : Option Addr) (dc : Nat) (ds : List UInt8) (na : Option Addr) (nl nc : Nat) (ls : List (List UInt8)) (nd : Nd) (dl : Nat) (hdl : ds.length = dl) (w : World) (h : Ss w na nl nc ls) :
    Calls Try.prog 59 #[.agg (rpCells e n da dl dc na nl nc nd)] w fun e' w' => e' = .returned (.bool (decide (Rp.Fine ⟨e, n, ds, ls, nd⟩))) ∧ Below w.heap.size w w' := by
  have hnl := h.1
  have hF : decide (Rp.Fine ⟨e, n, ds, ls, nd⟩) = (decide (0 ≤ e ∧ e ≤ 255 ∧ shortI n = true ∧ dl ≤ 65535 ∧ nl ≤ 255) && (decide (∀ s ∈ ls, s.length ≤ 16) && (decide nd.isZero || decide nd.Ok))) := by
    rw [Bool.eq_iff_iff]
    simp [Rp.Fine, hdl, hnl]
  rw [hF]
  have HC := Lib.hid (fun w h => contains_any na nl nc ls w h)
  have HR := Lib.hid (fun w => nright_any nd w)
  generalize decide (∀ s ∈ ls, s.length ≤ 16) = g at *
  generalize hz0 : decide nd.isZero = z at *
  have HZ := Lib.hid hz0
  clear hz0
  generalize decide nd.Ok = o at *
  obtain ⟨i0, i1, i2, i3, i4, i5⟩ := nd
  unfold rpCells
  unfold Nd.cells at *
  have h0 := h.alloc (.cells (rpCells e n da dl dc na nl nc ⟨i0, i1, i2, i3, i4, i5⟩) 45)
  have hc := heap_alloc_new w (.cells (rpCells e n da dl dc na nl nc ⟨i0, i1, i2, i3, i4, i5⟩) 45)
  have hE0 := (Ext.refl w).alloc (.cells (rpCells e n da dl dc na nl nc ⟨i0, i1, i2, i3, i4, i5⟩) 45)
  unfold rpCells at h0 hc hE0
  simp only at *
  obtain ⟨H, hH⟩ : ∃ H, H = w.heap.size := ⟨_, rfl⟩
  rw [← hH] at hc hE0
  have HH := Lib.hid hH
  by_cases hp : 0 ≤ e ∧ e ≤ 255 ∧ shortI n = true ∧ dl ≤ 65535 ∧ nl ≤ 255
  · rw [decide_eq_true hp]
    obtain ⟨h1, h2, h3, h4, h5⟩ := hp
    have g1 : ¬ e < 0 := by omega
    have g2 : ¬ 255 < e := by omega
    have g3 : ¬ (65535 : Int) < (dl : Int) := by omega
    have g4 : ¬ (255 : Int) < (nl : Int) := by omega
    have HS := Lib.hid (fun w => opshort_any n w)
    rw [h3] at HS
    clear h1 h2 h3 h4 h5 hF h
    go_enter Try.func59, Try.ntmps59
    go_upto_region 1 with fail
    rw [← hH]
    clear hH
    generalize w.alloc _ = w0 at *
    have C := cells_at hc
    have c0 := C 0; have c1 := C 1; have c2 := C 2; have c3 := C 3; have c4 := C 4; have c5 := C 5; have c6 := C 6; have c7 := C 7; have c8 := C 8; have c9 := C 9
    simp only [List.getElem?_toArray, List.getElem?_cons_zero, List.getElem?_cons_succ] at c0 c1 c2 c3 c4 c5 c6 c7 c8 c9
    have HX := Lib.hid hc
    clear C hc
    go_wp2_with fail
    refine (HS.out _).mono ?_
    rintro e' w1 ⟨rfl, rfl⟩
    go_wp2_with fail
    refine (HC.out _ h0).mono ?_
    rintro e' w1 ⟨rfl, hb1⟩
    have hc := (hb1.block H (lt_of_heap HX.out)).trans HX.out
    have hE1 := hE0.step hb1
    have C := cells_at hc
    clear c0 c1 c2 c3 c4 c5 c6 c7 c8 c9 h0 hb1 hE0 HX HC
    have c4 := C 4; have c5 := C 5; have c6 := C 6; have c7 := C 7; have c8 := C 8; have c9 := C 9
    simp only [List.getElem?_toArray, List.getElem?_cons_zero, List.getElem?_cons_succ] at c4 c5 c6 c7 c8 c9
    clear C hc
    cases g with
    | false =>
      go_wp2_with fail
      go_ret
      exact ⟨ret_bool (by simp), by rw [← HH.out]; exact hE1.1⟩
    | true =>
      by_cases hz : i0 = 0 ∧ i1 = 0 ∧ i2 = 0 ∧ i3 = 0 ∧ i4 = 0 ∧ i5 = false
      · obtain ⟨rfl, rfl, rfl, rfl, rfl, rfl⟩ := hz
        have hzt : z = true := by rw [← HZ.out]; exact decide_eq_true ⟨rfl, rfl, rfl, rfl, rfl, rfl⟩
        clear HZ HR
        go_wp2_with fail
        go_ret
        exact ⟨ret_bool (by simp [hzt]), by rw [← HH.out]; exact hE1.1⟩
      · have hzf : z = false := by rw [← HZ.out]; exact decide_eq_false hz
        have hcs : i0 ≠ 0 ∨ (i0 = 0 ∧ i1 ≠ 0) ∨ (i0 = 0 ∧ i1 = 0 ∧ i2 ≠ 0) ∨ (i0 = 0 ∧ i1 = 0 ∧ i2 = 0 ∧ i3 ≠ 0) ∨ (i0 = 0 ∧ i1 = 0 ∧ i2 = 0 ∧ i3 = 0 ∧ (i4 : Int) ≠ 0) ∨ (i0 = 0 ∧ i1 = 0 ∧ i2 = 0 ∧ i3 = 0 ∧ i4 = 0 ∧ i5 = true) := by
          cases i5 <;> simp at hz ⊢ <;> omega
        have HZF := Lib.hid hzf
        clear hz hzf HZ
        rcases hcs with a | ⟨rfl, a⟩ | ⟨rfl, rfl, a⟩ | ⟨rfl, rfl, rfl, a⟩ | ⟨rfl, rfl, rfl, rfl, a⟩ | ⟨rfl, rfl, rfl, rfl, rfl, rfl⟩
        all_goals
          go_wp2_with fail
          refine (HR.out _).mono ?_
          rintro e' w2 ⟨rfl, hb2⟩
          go_wp2_with fail
          go_ret
          exact ⟨ret_bool (by simp [HZF.out]), by rw [← HH.out]; exact (hE1.step hb2).1⟩
  · rw [decide_eq_false hp]
    have hE1 := hE0
    have C := cells_at hc
    have c0 := C 0; have c1 := C 1; have c2 := C 2; have c3 := C 3
    simp only [List.getElem?_toArray, List.getElem?_cons_zero, List.getElem?_cons_succ] at c0 c1 c2 c3
    have HS := Lib.hid (fun w => opshort_any n w)
    have hcs : e < 0 ∨ (¬ e < 0 ∧ 255 < e) ∨ (¬ e < 0 ∧ ¬ 255 < e ∧ shortI n = false) ∨ (¬ e < 0 ∧ ¬ 255 < e ∧ shortI n = true ∧ (65535 : Int) < (dl : Int)) ∨ (¬ e < 0 ∧ ¬ 255 < e ∧ shortI n = true ∧ ¬ (65535 : Int) < (dl : Int) ∧ (255 : Int) < (nl : Int)) := by
      cases hs : shortI n <;> simp [hs] at hp ⊢ <;> omega
    clear C hc HC HR h0 hF h hp hE0 HZ
    rcases hcs with g1 | ⟨g1, g2⟩ | ⟨g1, g2, g3⟩ | ⟨g1, g2, g3, g4⟩ | ⟨g1, g2, g3, g4, g5⟩
    · go_enter Try.func59, Try.ntmps59
      go_upto_region 1 with fail
      rw [← hH]
      clear hH
      generalize w.alloc _ = w0 at *
      go_wp2_with fail
      go_ret
      exact ⟨ret_bool (by simp), by rw [← HH.out]; exact hE1.1⟩
    · go_enter Try.func59, Try.ntmps59
      go_upto_region 1 with fail
      rw [← hH]
      clear hH
      generalize w.alloc _ = w0 at *
      go_wp2_with fail
      go_ret
      exact ⟨ret_bool (by simp), by rw [← HH.out]; exact hE1.1⟩
    · rw [g3] at HS
      clear g3
      go_enter Try.func59, Try.ntmps59
      go_upto_region 1 with fail
      rw [← hH]
      clear hH
      generalize w.alloc _ = w0 at *
      go_wp2_with fail
      refine (HS.out _).mono ?_
      rintro e' w1 ⟨rfl, rfl⟩
      go_wp2_with fail
      go_ret
      exact ⟨ret_bool (by simp), by rw [← HH.out]; exact hE1.1⟩
    · rw [g3] at HS
      clear g3
      go_enter Try.func59, Try.ntmps59
      go_upto_region 1 with fail
      rw [← hH]
      clear hH
      generalize w.alloc _ = w0 at *
      go_wp2_with fail
      refine (HS.out _).mono ?_
      rintro e' w1 ⟨rfl, rfl⟩
      go_wp2_with fail
      go_ret
      exact ⟨ret_bool (by simp), by rw [← HH.out]; exact hE1.1⟩
    · rw [g3] at HS
      clear g3
      go_enter Try.func59, Try.ntmps59
      go_upto_region 1 with fail
      rw [← hH]
      clear hH
      generalize w.alloc _ = w0 at *
      go_wp2_with fail
      refine (HS.out _).mono ?_
      rintro e' w1 ⟨rfl, rfl⟩
      go_wp2_with fail
      go_ret
      exact ⟨ret_bool (by simp), by rw [← HH.out]; exact hE1.1⟩

end Go.Proofs.Ytphjdlckoddgmaa
