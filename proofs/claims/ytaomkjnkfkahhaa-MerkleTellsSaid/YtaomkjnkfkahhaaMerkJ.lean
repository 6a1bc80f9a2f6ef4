/- The contracts of permafrostref6.Grown, Check, CheckGrown. -/
import Derived.Test.YtaomkjnkfkahhaaMerkD
import Derived.Test.YtaomkjnkfkahhaaMerkF
import Derived.Test.YtaomkjnkfkahhaaMerkH
import Derived.Test.YtaomkjnkfkahhaaMerkI
namespace Go.Proofs.Ytaomkjnkfkahhaa
open Go.RowKit

set_option maxHeartbeats 1000000 in
theorem rgrown_yes (n : Nat) (a : Option Addr) (cap : Nat) (ls : List (List UInt8)) (I : Nat) (w : World) (hL : LL w a n cap ls) (hx : ∀ x ∈ ls, x.length ≤ 1000) (hn : n ≤ 64) (h1 : 1 ≤ I) (hi : I ≤ n) :
    Calls Try.prog 22 #[.slice a n cap, .int .i64 (I : Int)] w fun e w' => ∃ v, e = .returned v ∧ OwnL w' w.heap.size v (mgrown ls I true) ∧ Below w.heap.size w w' := by
  have HI := Lib.hid (rsub_any n a cap ls I true w hL hx hn h1 hi)
  clear hL hx
  go_enter Try.func22, Try.ntmps22
  go_wp2_with fail
  refine HI.out.mono ?_
  rintro e w1 ⟨v, rfl, hO, hb⟩
  go_wp2_with fail
  go_ret
  exact ⟨_, rfl, hO, hb⟩

set_option maxHeartbeats 2000000 in
set_option maxRecDepth 100000 in
theorem rcheck_any (a1 a2 : Option Addr) (l1 l2 c1 c2 : Nat) (rt leaf : List UInt8) (i n : Int) (ap : Option Addr) (lp cp : Nat) (ps : List (List UInt8)) (w : World) (h1 : Bs w a1 l1 c1 rt) (h2 : Bs w a2 l2 c2 leaf) (hP : LL w ap lp cp ps) (hx : ∀ p ∈ ps, p.length ≤ 1000) (hl2 : l2 ≤ 1000) (hlp : lp ≤ 64) (hn : n ≤ 1000) :
    Calls Try.prog 17 #[.slice a1 l1 c1, .slice a2 l2 c2, .int .i64 i, .int .i64 n, .slice ap lp cp] w fun e w' => e = .returned (.bool (mcheck rt leaf i n ps)) ∧ Below w.heap.size w w' := by
  have HX := Lib.hid hx
  clear hx
  by_cases hr : 0 ≤ i ∧ i < n
  · obtain ⟨hr1, hr2⟩ := hr
    obtain ⟨I, rfl⟩ := Int.eq_ofNat_of_zero_le hr1
    obtain ⟨M, rfl⟩ := Int.eq_ofNat_of_zero_le (show 0 ≤ n by omega)
    have HM : Hid (mcheck rt leaf I M ps = ((climb (sha (0 :: leaf)) I M ps).2 && decide ((climb (sha (0 :: leaf)) I M ps).1 = rt))) := Lib.hid (by
      unfold mcheck; rw [decide_eq_true ⟨hr1, hr2⟩]; rfl)
    have H1 := Lib.hid h1
    have e1 : (1 : Int) ≤ (M : Int) := by omega
    have e2 : (lp : Int) ≤ 64 := by omega
    have HCL := Lib.hid (rclimb_any M a2 l2 c2 leaf I ap lp cp ps w h2 (by omega) hP HX.out (by omega) (by omega) (by omega) (by omega))
    have hs := strOf_eql
    clear h1 h2 hP
    generalize climb (sha (0 :: leaf)) I M ps = r at *
    obtain ⟨rh, ok⟩ := r
    go_enter Try.func17, Try.ntmps17
    go_wp2_with fail
    refine HCL.out.mono ?_
    rintro e w2 ⟨a4, m4, c4, rfl, hB4, hb2⟩
    have h1 := H1.out.below hb2
    have r1 := run_string h1
    have r2 := run_string hB4
    clear HCL h1 hB4
    cases ok with
    | true =>
      go_wp2_with fail
      go_ret
      exact ⟨by rw [HM.out]; rfl, hb2⟩
    | false =>
      go_wp2_with fail
      go_ret
      exact ⟨by rw [HM.out]; rfl, hb2⟩
  · have HM : Hid (mcheck rt leaf i n ps = false) := Lib.hid (by unfold mcheck; rw [decide_eq_false hr]; rfl)
    clear h1 h2 hP
    by_cases q0 : n < 1
    · go_enter Try.func17, Try.ntmps17
      go_wp2_with fail
      go_ret
      exact ⟨by rw [HM.out]; rfl, Below.refl _ _⟩
    · skip
      by_cases q1 : i < 0
      · go_enter Try.func17, Try.ntmps17
        go_wp2_with fail
        go_ret
        exact ⟨by rw [HM.out]; rfl, Below.refl _ _⟩
      · skip
        have q2 : n ≤ i := by omega
        go_enter Try.func17, Try.ntmps17
        go_wp2_with fail
        go_ret
        exact ⟨by rw [HM.out]; rfl, Below.refl _ _⟩

set_option maxHeartbeats 2000000 in
set_option maxRecDepth 100000 in
theorem rcheckG_any (a1 a2 : Option Addr) (l1 l2 c1 c2 : Nat) (old rt : List UInt8) (m n : Int) (ap : Option Addr) (lp cp : Nat) (ps : List (List UInt8)) (w : World) (h1 : Bs w a1 l1 c1 old) (h2 : Bs w a2 l2 c2 rt) (hP : LL w ap lp cp ps) (hx : ∀ p ∈ ps, p.length ≤ 1000) (hl1 : l1 ≤ 1000) (hlp : lp ≤ 65) (hn : n ≤ 1000) :
    Calls Try.prog 25 #[.slice a1 l1 c1, .slice a2 l2 c2, .int .i64 m, .int .i64 n, .slice ap lp cp] w fun e w' => e = .returned (.bool (mcheckG old rt m n ps)) ∧ Below w.heap.size w w' := by
  have HX := Lib.hid hx
  clear hx
  by_cases hr : 1 ≤ m ∧ m ≤ n
  · obtain ⟨hr1, hr2⟩ := hr
    obtain ⟨I, rfl⟩ := Int.eq_ofNat_of_zero_le (show 0 ≤ m by omega)
    obtain ⟨M, rfl⟩ := Int.eq_ofNat_of_zero_le (show 0 ≤ n by omega)
    have HM : Hid (mcheckG old rt I M ps = ((regrown old I M ps true).2.2 && (decide ((regrown old I M ps true).1 = old) && decide ((regrown old I M ps true).2.1 = rt)))) := Lib.hid (by
      unfold mcheckG; rw [decide_eq_true ⟨hr1, hr2⟩]; rfl)
    have H1 := Lib.hid h1
    have H2 := Lib.hid h2
    have e2 : (lp : Int) ≤ 65 := by omega
    have HCL := Lib.hid (both_any M a1 l1 c1 old I ap lp cp ps true w h1 (by omega) hP HX.out (by omega) (by omega) (by omega) (by omega))
    have hs := strOf_eql
    clear h1 h2 hP
    generalize regrown old I M ps true = r at *
    obtain ⟨ra, rb, ok⟩ := r
    go_enter Try.func25, Try.ntmps25
    go_wp2_with fail
    refine HCL.out.mono ?_
    rintro e w2 ⟨a4, m4, c4, a5, m5, c5, rfl, hB4, hB5, hb2⟩
    have h1 := H1.out.below hb2
    have h2 := H2.out.below hb2
    cases ok with
    | false =>
      clear HCL h1 h2 hB4 hB5
      go_wp2_with fail
      go_ret
      exact ⟨by rw [HM.out]; rfl, hb2⟩
    | true =>
      have r1 := run_string h1
      have r2 := run_string h2
      have r3 := run_string hB4
      have r4 := run_string hB5
      clear HCL h1 h2 hB4 hB5
      by_cases q : ra = old
      · have hq := decide_eq_true q
        have HQ := Lib.hid q
        clear q
        go_wp2_with fail
        go_ret
        exact ⟨by rw [HM.out, decide_eq_true HQ.out]; rfl, hb2⟩
      · have hq := decide_eq_false q
        have HQ := Lib.hid q
        clear q
        go_wp2_with fail
        go_ret
        exact ⟨by rw [HM.out, decide_eq_false HQ.out]; rfl, hb2⟩
  · have HM : Hid (mcheckG old rt m n ps = false) := Lib.hid (by unfold mcheckG; rw [decide_eq_false hr]; rfl)
    clear h1 h2 hP
    by_cases q0 : m < 1
    · go_enter Try.func25, Try.ntmps25
      go_wp2_with fail
      go_ret
      exact ⟨by rw [HM.out]; rfl, Below.refl _ _⟩
    · have q1 : n < m := by omega
      go_enter Try.func25, Try.ntmps25
      go_wp2_with fail
      go_ret
      exact ⟨by rw [HM.out]; rfl, Below.refl _ _⟩
end Go.Proofs.Ytaomkjnkfkahhaa
