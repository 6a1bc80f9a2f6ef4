/- The contracts of bytes.Equal, merkle.Path, Grown, Check, CheckGrown. -/
import Derived.Test.YtaomkjnkfkahhaaMerkC
import Derived.Test.YtaomkjnkfkahhaaMerkE
import Derived.Test.YtaomkjnkfkahhaaMerkG
import Derived.Test.YtaomkjnkfkahhaaEqual
import Derived.Test.YtaomkjnkfkahhaaStr
namespace Go.Proofs.Ytaomkjnkfkahhaa
open Go.RowKit

/-- does a leaf come to a root? -/
def mcheck (rt leaf : List UInt8) (i n : Int) (ps : List (List UInt8)) : Bool :=
  decide (0 ≤ i ∧ i < n) && ((climb (sha (0 :: leaf)) i.toNat n.toNat ps).2 && decide ((climb (sha (0 :: leaf)) i.toNat n.toNat ps).1 = rt))
/-- is a tree the beginning of another one? -/
def mcheckG (old rt : List UInt8) (m n : Int) (ps : List (List UInt8)) : Bool :=
  decide (1 ≤ m ∧ m ≤ n) && ((regrown old m.toNat n.toNat ps true).2.2 && (decide ((regrown old m.toNat n.toNat ps true).1 = old) && decide ((regrown old m.toNat n.toNat ps true).2.1 = rt)))
theorem strOf_eql (xs ys : List UInt8) : ((strOf xs).toList == (strOf ys).toList) = decide (xs = ys) := by
  rw [strOf_toList, strOf_toList]
  by_cases h : xs = ys
  · subst h; simp
  · rw [decide_eq_false h, beq_eq_false_iff_ne]; exact h
theorem strOf_neq (xs ys : List UInt8) : (!(strOf xs).toList == (strOf ys).toList) = decide (xs ≠ ys) := by
  rw [strOf_eql]; by_cases h : xs = ys <;> simp [h]
set_option maxHeartbeats 1000000 in
theorem bequal_any (a1 a2 : Option Addr) (l1 l2 c1 c2 : Nat) (xs ys : List UInt8) (w : World) (h1 : Bs w a1 l1 c1 xs) (h2 : Bs w a2 l2 c2 ys) :
    Calls Try.prog 33 #[.slice a1 l1 c1, .slice a2 l2 c2] w fun e w' => e = .returned (.bool (decide (xs = ys))) ∧ Below w.heap.size w w' := by
  have r1 := run_string h1
  have r2 := run_string h2
  have hs := strOf_eql
  go_enter Try.func33, Try.ntmps33
  go_wp2_with fail
  go_ret
  exact ⟨rfl, Below.refl _ _⟩

set_option maxHeartbeats 1000000 in
theorem mpath_no (n : Nat) (a : Option Addr) (cap : Nat) (i : Int) (w : World) (h : i < 0 ∨ (n : Int) ≤ i) :
    Calls Try.prog 14 #[.slice a n cap, .int .i64 i] w fun e w' => e = .returned (.tuple #[.slice none 0 0, .int .i64 1]) ∧ Below w.heap.size w w' := by
  by_cases h1 : i < 0
  · go_enter Try.func14, Try.ntmps14
    go_wp2_with fail
    go_ret2
    exact ⟨rfl, Below.refl _ _⟩
  · have h2 : (n : Int) ≤ i := by omega
    go_enter Try.func14, Try.ntmps14
    go_wp2_with fail
    go_ret2
    exact ⟨rfl, Below.refl _ _⟩
set_option maxHeartbeats 1000000 in
theorem mpath_yes (n : Nat) (a : Option Addr) (cap : Nat) (ls : List (List UInt8)) (I : Nat) (w : World) (hL : LL w a n cap ls) (hx : ∀ x ∈ ls, x.length ≤ 1000) (hn : n ≤ 64) (hi : I < n) :
    Calls Try.prog 14 #[.slice a n cap, .int .i64 (I : Int)] w fun e w' => ∃ v, e = .returned (.tuple #[v, .int .i64 0]) ∧ OwnL w' w.heap.size v (mpath ls I) ∧ Below w.heap.size w w' := by
  have HX := Lib.hid hx
  clear hx
  have HI := Lib.hid (path_any n a cap ls I w hL HX.out hn (by omega))
  have e1 : (0 : Int) ≤ (I : Int) := by omega
  have e2 : (I : Int) < (n : Int) := by omega
  clear hL
  go_enter Try.func14, Try.ntmps14
  go_wp2_with fail
  refine HI.out.mono ?_
  rintro e w1 ⟨v, rfl, hO, hb⟩
  go_wp2_with fail
  go_ret2
  exact ⟨_, rfl, hO, hb⟩

set_option maxHeartbeats 1000000 in
theorem mgrown_no (n : Nat) (a : Option Addr) (cap : Nat) (i : Int) (w : World) (h : i < 1 ∨ (n : Int) < i) :
    Calls Try.prog 21 #[.slice a n cap, .int .i64 i] w fun e w' => e = .returned (.tuple #[.slice none 0 0, .int .i64 1]) ∧ Below w.heap.size w w' := by
  by_cases h1 : i < 1
  · go_enter Try.func21, Try.ntmps21
    go_wp2_with fail
    go_ret2
    exact ⟨rfl, Below.refl _ _⟩
  · have h2 : (n : Int) < i := by omega
    go_enter Try.func21, Try.ntmps21
    go_wp2_with fail
    go_ret2
    exact ⟨rfl, Below.refl _ _⟩
set_option maxHeartbeats 1000000 in
theorem mgrown_yes (n : Nat) (a : Option Addr) (cap : Nat) (ls : List (List UInt8)) (I : Nat) (w : World) (hL : LL w a n cap ls) (hx : ∀ x ∈ ls, x.length ≤ 1000) (hn : n ≤ 64) (h1 : 1 ≤ I) (hi : I ≤ n) :
    Calls Try.prog 21 #[.slice a n cap, .int .i64 (I : Int)] w fun e w' => ∃ v, e = .returned (.tuple #[v, .int .i64 0]) ∧ OwnL w' w.heap.size v (mgrown ls I true) ∧ Below w.heap.size w w' := by
  have HX := Lib.hid hx
  clear hx
  have HI := Lib.hid (grown_any n a cap ls I true w hL HX.out hn (by omega) (by omega))
  have e1 : (1 : Int) ≤ (I : Int) := by omega
  have e2 : (I : Int) ≤ (n : Int) := by omega
  clear hL
  go_enter Try.func21, Try.ntmps21
  go_wp2_with fail
  refine HI.out.mono ?_
  rintro e w1 ⟨v, rfl, hO, hb⟩
  go_wp2_with fail
  go_ret2
  exact ⟨_, rfl, hO, hb⟩

set_option maxHeartbeats 2000000 in
set_option maxRecDepth 100000 in
theorem check_any (a1 a2 : Option Addr) (l1 l2 c1 c2 : Nat) (rt leaf : List UInt8) (i n : Int) (ap : Option Addr) (lp cp : Nat) (ps : List (List UInt8)) (w : World) (h1 : Bs w a1 l1 c1 rt) (h2 : Bs w a2 l2 c2 leaf) (hP : LL w ap lp cp ps) (hx : ∀ p ∈ ps, p.length ≤ 1000) (hl2 : l2 ≤ 1000) (hlp : lp ≤ 64) (hn : n ≤ 1000) :
    Calls Try.prog 16 #[.slice a1 l1 c1, .slice a2 l2 c2, .int .i64 i, .int .i64 n, .slice ap lp cp] w fun e w' => e = .returned (.bool (mcheck rt leaf i n ps)) ∧ Below w.heap.size w w' := by
  have HX := Lib.hid hx
  clear hx
  by_cases hr : 0 ≤ i ∧ i < n
  · obtain ⟨hr1, hr2⟩ := hr
    obtain ⟨I, rfl⟩ := Int.eq_ofNat_of_zero_le hr1
    obtain ⟨M, rfl⟩ := Int.eq_ofNat_of_zero_le (show 0 ≤ n by omega)
    have HM : Hid (mcheck rt leaf I M ps = ((climb (sha (0 :: leaf)) I M ps).2 && decide ((climb (sha (0 :: leaf)) I M ps).1 = rt))) := Lib.hid (by
      unfold mcheck; rw [decide_eq_true ⟨hr1, hr2⟩]; rfl)
    have H1 := Lib.hid h1
    have HLF := Lib.hid (shaleaf_any a2 l2 c2 leaf w h2 (by omega))
    have HP := Lib.hid hP
    clear h1 h2 hP
    go_enter Try.func16, Try.ntmps16
    go_wp2_with fail
    refine HLF.out.mono ?_
    rintro e w1 ⟨v, rfl, hO, hb⟩
    obtain ⟨a3, c3, rfl, hB3⟩ := hO.bsn (n := 32) (sha_length _)
    have hP1 := HP.out.below hb
    have HCL := Lib.hid (climb_any M a3 32 c3 _ I ap lp cp ps w1 hB3 (by omega) hP1 HX.out (by omega) (by omega) (by omega) (by omega))
    have hE := (Ext.refl w).step hb
    clear hb hO hB3 hP1 HLF
    generalize climb (sha (0 :: leaf)) I M ps = r at *
    obtain ⟨rh, ok⟩ := r
    go_wp2_with fail
    refine HCL.out.mono ?_
    rintro e w2 ⟨a4, m4, c4, rfl, hB4, hb2⟩
    have hE := hE.step hb2
    have h1 := H1.out.below hE.1
    clear hb2 HCL
    cases ok with
    | true =>
      go_wp2_with fail
      refine (bequal_any _ _ _ _ _ _ _ _ _ hB4 h1).mono ?_
      rintro e w3 ⟨rfl, hb3⟩
      have hE := hE.step hb3
      go_wp2_with fail
      go_ret
      exact ⟨by rw [HM.out]; rfl, hE.1⟩
    | false =>
      go_wp2_with fail
      go_ret
      exact ⟨by rw [HM.out]; rfl, hE.1⟩
  · have HM : Hid (mcheck rt leaf i n ps = false) := Lib.hid (by unfold mcheck; rw [decide_eq_false hr]; rfl)
    clear h1 h2 hP
    by_cases q0 : i < 0
    · go_enter Try.func16, Try.ntmps16
      go_wp2_with fail
      go_ret
      exact ⟨by rw [HM.out]; rfl, Below.refl _ _⟩
    · skip
      have q1 : n ≤ i := by omega
      go_enter Try.func16, Try.ntmps16
      go_wp2_with fail
      go_ret
      exact ⟨by rw [HM.out]; rfl, Below.refl _ _⟩

set_option maxHeartbeats 2000000 in
set_option maxRecDepth 100000 in
theorem checkG_any (a1 a2 : Option Addr) (l1 l2 c1 c2 : Nat) (old rt : List UInt8) (m n : Int) (ap : Option Addr) (lp cp : Nat) (ps : List (List UInt8)) (w : World) (h1 : Bs w a1 l1 c1 old) (h2 : Bs w a2 l2 c2 rt) (hP : LL w ap lp cp ps) (hx : ∀ p ∈ ps, p.length ≤ 1000) (hl1 : l1 ≤ 1000) (hlp : lp ≤ 65) (hn : n ≤ 1000) :
    Calls Try.prog 23 #[.slice a1 l1 c1, .slice a2 l2 c2, .int .i64 m, .int .i64 n, .slice ap lp cp] w fun e w' => e = .returned (.bool (mcheckG old rt m n ps)) ∧ Below w.heap.size w w' := by
  have HX := Lib.hid hx
  clear hx
  by_cases hr : 1 ≤ m ∧ m ≤ n
  · obtain ⟨hr1, hr2⟩ := hr
    obtain ⟨I, rfl⟩ := Int.eq_ofNat_of_zero_le (show 0 ≤ m by omega)
    obtain ⟨M, rfl⟩ := Int.eq_ofNat_of_zero_le (show 0 ≤ n by omega)
    have HM : Hid (mcheckG old rt I M ps = ((regrown old I M ps true).2.2 && (decide ((regrown old I M ps true).1 = old) && decide ((regrown old I M ps true).2.1 = rt)))) := Lib.hid (by
      unfold mcheckG; rw [decide_eq_true ⟨hr1, hr2⟩]; rfl)
    have H1 := Lib.hid h1
    have H2 := Lib.hid h2
    have e2 : (lp : Int) ≤ 65 := by omega
    have HCL := Lib.hid (regrown_any M a1 l1 c1 old I ap lp cp ps true w h1 (by omega) hP HX.out (by omega) (by omega) (by omega) (by omega))
    have hs := strOf_eql
    clear h1 h2 hP
    generalize regrown old I M ps true = r at *
    obtain ⟨ra, rb, ok⟩ := r
    go_enter Try.func23, Try.ntmps23
    go_wp2_with fail
    refine HCL.out.mono ?_
    rintro e w2 ⟨a4, m4, c4, a5, m5, c5, rfl, hB4, hB5, hb2⟩
    have h1 := H1.out.below hb2
    have h2 := H2.out.below hb2
    cases ok with
    | false =>
      clear HCL h1 h2 hB4 hB5
      go_wp2_with fail
      go_ret
      exact ⟨by rw [HM.out]; rfl, hb2⟩
    | true =>
      clear HCL hs
      go_wp2_with fail
      refine (equal_any _ _ _ _ _ _ _ _ _ hB4 h1).mono ?_
      rintro e w3 ⟨rfl, hb3⟩
      have h2 := h2.below hb3
      have hB5 := hB5.below hb3
      have hE := ((Ext.refl w).step hb2).step hb3
      by_cases q : ra = old
      · have hq := decide_eq_true q
        rw [hq]
        have HQ := Lib.hid hq
        clear q hq
        go_wp2_with fail
        refine (equal_any _ _ _ _ _ _ _ _ _ hB5 h2).mono ?_
        rintro e w4 ⟨rfl, hb4⟩
        have hE := hE.step hb4
        go_wp2_with fail
        go_ret
        exact ⟨by rw [HM.out, HQ.out]; rfl, hE.1⟩
      · have hq := decide_eq_false q
        rw [hq]
        have HQ := Lib.hid hq
        clear q hq
        go_wp2_with fail
        go_ret
        exact ⟨by rw [HM.out, HQ.out]; rfl, hE.1⟩
  · have HM : Hid (mcheckG old rt m n ps = false) := Lib.hid (by unfold mcheckG; rw [decide_eq_false hr]; rfl)
    clear h1 h2 hP
    by_cases q0 : m < 1
    · go_enter Try.func23, Try.ntmps23
      go_wp2_with fail
      go_ret
      exact ⟨by rw [HM.out]; rfl, Below.refl _ _⟩
    · have q1 : n < m := by omega
      go_enter Try.func23, Try.ntmps23
      go_wp2_with fail
      go_ret
      exact ⟨by rw [HM.out]; rfl, Below.refl _ _⟩
end Go.Proofs.Ytaomkjnkfkahhaa
