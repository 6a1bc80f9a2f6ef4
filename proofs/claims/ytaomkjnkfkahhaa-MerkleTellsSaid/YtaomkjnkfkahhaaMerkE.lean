/- The contract of merkle.climb. -/
import Derived.Test.YtaomkjnkfkahhaaMerkA
namespace Go.Proofs.Ytaomkjnkfkahhaa
open Go.RowKit

set_option maxHeartbeats 2000000 in
set_option maxRecDepth 100000 in
theorem climb_any (n : Nat) : ∀ (a0 : Option Addr) (m0 c0 : Nat) (x : List UInt8) (i : Nat) (ap : Option Addr) (lp cp : Nat) (ps : List (List UInt8)) (w : World), Bs w a0 m0 c0 x → m0 ≤ 1000 → LL w ap lp cp ps → (∀ p ∈ ps, p.length ≤ 1000) → lp ≤ 1000 → 1 ≤ n → n ≤ 1000 → i < n →
    Calls Try.prog 32 #[.slice a0 m0 c0, .int .i64 (i : Int), .int .i64 (n : Int), .slice ap lp cp] w fun e w' => ∃ a m c, e = .returned (.tuple #[.slice a m c, .bool (climb x i n ps).2]) ∧ Bs w' a m c (climb x i n ps).1 ∧ Below w.heap.size w w' := by
  induction n using Nat.strongRecOn with
  | _ n ih =>
  intro a0 m0 c0 x i ap lp cp ps w hX hm0 hP hx hlp hn1 hn hi
  have IH := Lib.hid ih
  clear ih
  have HXS := Lib.hid hx
  clear hx
  by_cases h0 : n = 1
  · subst h0
    have hpl := hP.1
    have HC : Hid ((climb x i 1 ps).1 = x ∧ (climb x i 1 ps).2 = ((lp : Int) == 0)) := Lib.hid (by
      rw [climb, if_pos (by omega), hpl]
      refine ⟨rfl, ?_⟩
      by_cases h : lp = 0
      · subst h; rfl
      · rw [show ((lp : Int) == 0) = false by rw [beq_eq_false_iff_ne]; omega]
        show (lp == 0) = false
        rw [beq_eq_false_iff_ne]; exact h)
    clear hpl
    have HXX := Lib.hid hX
    clear hX hP
    go_enter Try.func32, Try.ntmps32
    go_wp2_with fail
    go_ret2
    exact ⟨_, _, _, congrArg Ending.returned (by rw [HC.out.2]; rfl), by rw [HC.out.1]; exact HXX.out, Below.refl _ _⟩
  · have g0 : ((n : Int) == 1) = false := by rw [beq_eq_false_iff_ne]; omega
    by_cases h1 : lp = 0
    · subst h1
      have hpl := hP.1
      have HC : Hid (climb x i n ps = ([], false)) := Lib.hid (by rw [climb, if_neg (by omega), if_pos hpl])
      clear hpl hP hX
      go_enter Try.func32, Try.ntmps32
      go_wp2_with fail
      go_ret2
      exact ⟨none, 0, 0, congrArg Ending.returned (by rw [HC.out]; rfl), by rw [HC.out]; exact Bs.nil _, Below.refl _ _⟩
    · have g1 : ((lp : Int) == 0) = false := by rw [beq_eq_false_iff_ne]; omega
      obtain ⟨l, rfl⟩ : ∃ l, lp = l + 1 := ⟨lp - 1, by omega⟩
      have hpl := hP.1
      have hcap := hP.2.1
      obtain ⟨b, off, rfl, hb, hc⟩ := hP.at (by omega)
      obtain ⟨a', m, c, hc1, hU⟩ := hc l (by omega)
      clear hc
      have hR := hP.take (k := l) (by omega)
      have hul : m ≤ 1000 := by
        rw [← hU.1, List.getD_eq_getElem?_getD, List.getElem?_eq_getElem (by omega)]
        exact HXS.out _ (List.getElem_mem _)
      have hxr : ∀ p ∈ ps.take l, p.length ≤ 1000 := fun p h => HXS.out p (List.mem_of_mem_take h)
      have hu : ps.getD l [] = ps.getLastD [] := by rw [List.getLastD_eq_getLast?, List.getLast?_eq_getElem?, hpl, List.getD_eq_getElem?_getD]; rfl
      have hr : ps.take l = ps.dropLast := by rw [List.dropLast_eq_take, hpl]; rfl
      rw [hu] at hU
      rw [hr] at hR hxr
      have HPL : Hid (ps.length = l + 1) := Lib.hid hpl
      have HX := Lib.hid hX
      have HU := Lib.hid hU
      have HR := Lib.hid hR
      have i1 : IntKind.i64.wrap (((l + 1 : Nat) : Int) - 1) = (l : Int) := by rw [IntWalk.i64_in _ (by omega)]; omega
      have i2 : IntKind.i64.wrap ((l : Int) + 1 - 1) = (l : Int) := by rw [IntWalk.i64_in _ (by omega)]; omega
      have e1 : (0 : Int) ≤ (l : Int) := by omega
      have e2 : (l : Int) < ((l + 1 : Nat) : Int) := by omega
      have e3 : (l : Int) ≤ (cp : Int) := by omega
      clear hpl hu hr hX hU hR hP
      have hp := mpart_spec (n := n) (by omega)
      have HPA := Lib.hid (fun W => part_any n W (by omega))
      by_cases hlt : i < mpart n
      · have HC : Hid (climb x i n ps = (pairH (climb x i (mpart n) ps.dropLast).1 (ps.getLastD []), (climb x i (mpart n) ps.dropLast).2)) := Lib.hid (by rw [climb, if_neg (by omega), if_neg (by rw [HPL.out]; omega), if_pos hlt])
        have f1 : (i : Int) < ((mpart n : Nat) : Int) := by omega
        have HI := Lib.hid (IH.out (mpart n) (by omega) a0 m0 c0 x i _ l cp ps.dropLast w.drew HX.out.drew hm0 (HR.out.below (Below.refl _ _).drew) hxr (by omega) (by omega) (by omega) hlt)
        have hsh := climb_short x i (mpart n) ps.dropLast (by rw [HX.out.1]; exact hm0)
        generalize climb x i (mpart n) ps.dropLast = r at *
        have HRP := Lib.hid hp
        clear hp
        go_enter Try.func32, Try.ntmps32
        go_wp2_with fail
        go_region
        go_wp2_with fail
        refine (HPA.out _).mono ?_
        rintro e wq ⟨rfl, rfl⟩
        go_wp2_with fail
        refine HI.out.mono ?_
        rintro e w1 ⟨a1, m1, c1, rfl, hB1, hb1⟩
        have hU1 := HU.out.drew.below hb1
        have hm1 : m1 ≤ 1000 := by rw [← hB1.1]; exact hsh
        go_wp2_with fail
        refine (shapair_any _ _ _ _ _ _ _ _ _ hB1 hU1 (by omega)).mono ?_
        rintro e w2 ⟨v, rfl, hO, hb2⟩
        obtain ⟨a2, c2, rfl, hB2⟩ := hO.bsn (n := 32) (sha_length _)
        have hE := ((Ext.refl w).drew.step hb1).step hb2
        clear hO hb1 hb2
        go_wp2_with fail
        go_ret2
        exact ⟨_, _, _, congrArg Ending.returned (by rw [HC.out]; rfl), by rw [HC.out]; exact hB2, hE.1⟩
      · have HC : Hid (climb x i n ps = (pairH (ps.getLastD []) (climb x (i - mpart n) (n - mpart n) ps.dropLast).1, (climb x (i - mpart n) (n - mpart n) ps.dropLast).2)) := Lib.hid (by rw [climb, if_neg (by omega), if_neg (by rw [HPL.out]; omega), if_neg hlt])
        have f1 : ¬ (i : Int) < ((mpart n : Nat) : Int) := by omega
        obtain ⟨J, hJ⟩ : ∃ J, J = i - mpart n := ⟨_, rfl⟩
        obtain ⟨M, hM⟩ : ∃ M, M = n - mpart n := ⟨_, rfl⟩
        have i3 : IntKind.i64.wrap ((i : Int) - ((mpart n : Nat) : Int)) = (J : Int) := by rw [IntWalk.i64_in _ (by omega)]; omega
        have i4 : IntKind.i64.wrap ((n : Int) - ((mpart n : Nat) : Int)) = (M : Int) := by rw [IntWalk.i64_in _ (by omega)]; omega
        rw [← hJ, ← hM] at HC
        have HI := Lib.hid (IH.out M (by omega) a0 m0 c0 x J _ l cp ps.dropLast w.drew HX.out.drew hm0 (HR.out.below (Below.refl _ _).drew) hxr (by omega) (by omega) (by omega) (by omega))
        have hsh := climb_short x J M ps.dropLast (by rw [HX.out.1]; exact hm0)
        generalize climb x J M ps.dropLast = r at *
        have HRP := Lib.hid hp
        clear hp hJ hM
        go_enter Try.func32, Try.ntmps32
        go_wp2_with fail
        go_region
        go_wp2_with fail
        refine (HPA.out _).mono ?_
        rintro e wq ⟨rfl, rfl⟩
        go_wp2_with fail
        refine HI.out.mono ?_
        rintro e w1 ⟨a1, m1, c1, rfl, hB1, hb1⟩
        have hU1 := HU.out.drew.below hb1
        have hm1 : m1 ≤ 1000 := by rw [← hB1.1]; exact hsh
        go_wp2_with fail
        refine (shapair_any _ _ _ _ _ _ _ _ _ hU1 hB1 (by omega)).mono ?_
        rintro e w2 ⟨v, rfl, hO, hb2⟩
        obtain ⟨a2, c2, rfl, hB2⟩ := hO.bsn (n := 32) (sha_length _)
        have hE := ((Ext.refl w).drew.step hb1).step hb2
        clear hO hb1 hb2
        go_wp2_with fail
        go_ret2
        exact ⟨_, _, _, congrArg Ending.returned (by rw [HC.out]; rfl), by rw [HC.out]; exact hB2, hE.1⟩
end Go.Proofs.Ytaomkjnkfkahhaa
