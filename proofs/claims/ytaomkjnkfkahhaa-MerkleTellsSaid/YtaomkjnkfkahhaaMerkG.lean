/- The contract of merkle.regrown. -/
import Derived.Test.YtaomkjnkfkahhaaMerkA
import Derived.OwnWalk
namespace Go.Proofs.Ytaomkjnkfkahhaa
open Go.RowKit

set_option maxHeartbeats 2000000 in
set_option maxRecDepth 100000 in
theorem regrown_any (n : Nat) : ∀ (a0 : Option Addr) (m0 c0 : Nat) (x : List UInt8) (m : Nat) (ap : Option Addr) (lp cp : Nat) (ps : List (List UInt8)) (t : Bool) (w : World), Bs w a0 m0 c0 x → m0 ≤ 1000 → LL w ap lp cp ps → (∀ p ∈ ps, p.length ≤ 1000) → lp ≤ 1000 → 1 ≤ m → m ≤ n → n ≤ 1000 →
    Calls Try.prog 38 #[.slice a0 m0 c0, .int .i64 (m : Int), .int .i64 (n : Int), .slice ap lp cp, .bool t] w fun e w' => ∃ a m1 c a' m1' c', e = .returned (.tuple #[.slice a m1 c, .slice a' m1' c', .bool (regrown x m n ps t).2.2]) ∧ Bs w' a m1 c (regrown x m n ps t).1 ∧ Bs w' a' m1' c' (regrown x m n ps t).2.1 ∧ Below w.heap.size w w' := by
  induction n using Nat.strongRecOn with
  | _ n ih =>
  intro a0 m0 c0 x m ap lp cp ps t w hX hm0 hP hx hlp hm1 hmn hn
  have IH := Lib.hid ih
  clear ih
  have HXS := Lib.hid hx
  clear hx
  have hpl := hP.1
  by_cases h0 : m = n
  · subst h0
    have HXX := Lib.hid hX
    cases t with
    | true =>
      have HC : Hid (regrown x m m ps true = (x, x, ((lp : Int) == 0))) := Lib.hid (by
        rw [regrown, if_pos rfl, hpl]
        have : (lp == 0) = ((lp : Int) == 0) := by
          by_cases h : lp = 0
          · subst h; rfl
          · rw [show ((lp : Int) == 0) = false by rw [beq_eq_false_iff_ne]; omega, beq_eq_false_iff_ne.2 h]
        rw [this]; rfl)
      clear hpl hX hP
      go_enter Try.func38, Try.ntmps38
      go_wp2_with fail
      go_ret3
      exact ⟨_, _, _, _, _, _, congrArg Ending.returned (by rw [HC.out]; rfl), by rw [HC.out]; exact HXX.out, by rw [HC.out]; exact HXX.out, Below.refl _ _⟩
    | false =>
      by_cases h1 : lp = 1
      · subst h1
        obtain ⟨b, off, rfl, hb, hc⟩ := hP.at (by omega)
        obtain ⟨a', m', c, hc1, hU⟩ := hc 0 (by omega)
        rw [Nat.add_zero] at hc1
        clear hc
        have HC : Hid (regrown x m m ps false = (ps.getD 0 [], ps.getD 0 [], true)) := Lib.hid (by
          obtain ⟨p, rfl⟩ := List.length_eq_one_iff.1 hpl
          rw [regrown, if_pos rfl]; rfl)
        have HU := Lib.hid hU
        clear hpl hX hP hU
        go_enter Try.func38, Try.ntmps38
        go_wp2_with fail
        go_region
        go_wp2_with fail
        go_ret3
        exact ⟨_, _, _, _, _, _, congrArg Ending.returned (by rw [HC.out]; rfl), by rw [HC.out]; exact HU.out.drew, by rw [HC.out]; exact HU.out.drew, (Below.refl _ _).drew⟩
      · have HC : Hid (regrown x m m ps false = ([], [], false)) := Lib.hid (by rw [regrown, if_pos rfl, if_neg (by decide), if_neg (by rw [hpl]; exact h1)])
        have g1 : ((lp : Int) != 1) = true := by rw [bne_iff_ne]; omega
        clear hpl hX hP
        go_enter Try.func38, Try.ntmps38
        go_wp2_with fail
        go_ret3
        exact ⟨none, 0, 0, none, 0, 0, congrArg Ending.returned (by rw [HC.out]; rfl), by rw [HC.out]; exact Bs.nil _, by rw [HC.out]; exact Bs.nil _, Below.refl _ _⟩
  · have g0 : ((m : Int) == (n : Int)) = false := by rw [beq_eq_false_iff_ne]; omega
    by_cases h1 : lp = 0
    · subst h1
      have HC : Hid (regrown x m n ps t = ([], [], false)) := Lib.hid (by rw [regrown, if_neg h0, if_pos hpl])
      clear hpl hP hX
      go_enter Try.func38, Try.ntmps38
      go_wp2_with fail
      go_ret3
      exact ⟨none, 0, 0, none, 0, 0, congrArg Ending.returned (by rw [HC.out]; rfl), by rw [HC.out]; exact Bs.nil _, by rw [HC.out]; exact Bs.nil _, Below.refl _ _⟩
    · have g1 : ((lp : Int) == 0) = false := by rw [beq_eq_false_iff_ne]; omega
      obtain ⟨l, rfl⟩ : ∃ l, lp = l + 1 := ⟨lp - 1, by omega⟩
      have hcap := hP.2.1
      obtain ⟨b, off, rfl, hb, hc⟩ := hP.at (by omega)
      obtain ⟨a', m', c, hc1, hU⟩ := hc l (by omega)
      clear hc
      have hR := hP.take (k := l) (by omega)
      have hul : m' ≤ 1000 := by
        rw [← hU.1, List.getD_eq_getElem?_getD, List.getElem?_eq_getElem (by omega)]
        exact HXS.out _ (List.getElem_mem _)
      have hxr : ∀ p ∈ ps.take l, p.length ≤ 1000 := fun p h => HXS.out p (List.mem_of_mem_take h)
      have hu : ps.getD l [] = ps.getLastD [] := by rw [List.getLastD_eq_getLast?, List.getLast?_eq_getElem?, hpl, List.getD_eq_getElem?_getD]; rfl
      have hr : ps.take l = ps.dropLast := by rw [List.dropLast_eq_take, hpl]; rfl
      rw [hu] at hU
      rw [hr] at hR hxr
      have HPL : Hid (ps.length = l + 1) := Lib.hid hpl
      have HX := Lib.hid hX
      have HU := Lib.hid hU
      have HR := Lib.hid hR
      have i1 : IntKind.i64.wrap (((l + 1 : Nat) : Int) - 1) = (l : Int) := by rw [IntWalk.i64_in _ (by omega)]; omega
      have i2 : IntKind.i64.wrap ((l : Int) + 1 - 1) = (l : Int) := by rw [IntWalk.i64_in _ (by omega)]; omega
      have e1 : (0 : Int) ≤ (l : Int) := by omega
      have e2 : (l : Int) < ((l + 1 : Nat) : Int) := by omega
      have e3 : (l : Int) ≤ (cp : Int) := by omega
      clear hpl hu hr hX hU hR hP
      have hp := mpart_spec (n := n) (by omega)
      have HPA := Lib.hid (fun W => part_any n W (by omega))
      by_cases hlt : m ≤ mpart n
      · have HC : Hid (regrown x m n ps t = ((regrown x m (mpart n) ps.dropLast t).1, pairH (regrown x m (mpart n) ps.dropLast t).2.1 (ps.getLastD []), (regrown x m (mpart n) ps.dropLast t).2.2)) := Lib.hid (by rw [regrown, if_neg h0, if_neg (by rw [HPL.out]; omega), if_neg (by omega), if_pos hlt])
        have f1 : (m : Int) ≤ ((mpart n : Nat) : Int) := by omega
        have HI := Lib.hid (IH.out (mpart n) (by omega) a0 m0 c0 x m _ l cp ps.dropLast t w.drew HX.out.drew hm0 (HR.out.below (Below.refl _ _).drew) hxr (by omega) hm1 hlt (by omega))
        have hsh := regrown_short x m (mpart n) ps.dropLast t (by rw [HX.out.1]; exact hm0) hxr
        generalize regrown x m (mpart n) ps.dropLast t = r at *
        have HRP := Lib.hid hp
        clear hp
        go_enter Try.func38, Try.ntmps38
        go_wp2_with fail
        go_region
        go_wp2_with fail
        refine (HPA.out _).mono ?_
        rintro e wq ⟨rfl, rfl⟩
        go_wp2_with fail
        refine HI.out.mono ?_
        rintro e w1 ⟨a1, m1, c1, a3, m3, c3, rfl, hB1, hB3, hb1⟩
        have hU1 := HU.out.drew.below hb1
        have hm3 : m3 ≤ 1000 := by rw [← hB3.1]; exact hsh.2
        go_wp2_with fail
        refine (shapair_any _ _ _ _ _ _ _ _ _ hB3 hU1 (by omega)).mono ?_
        rintro e w2 ⟨v, rfl, hO, hb2⟩
        obtain ⟨a2, c2, rfl, hB2⟩ := hO.bsn (n := 32) (sha_length _)
        have hB1 := hB1.below hb2
        have hE := ((Ext.refl w).drew.step hb1).step hb2
        clear hO hb1 hb2
        go_wp2_with fail
        go_ret3
        exact ⟨_, _, _, _, _, _, congrArg Ending.returned (by rw [HC.out]; rfl), by rw [HC.out]; exact hB1, by rw [HC.out]; exact hB2, hE.1⟩
      · have HC : Hid (regrown x m n ps t = (pairH (ps.getLastD []) (regrown x (m - mpart n) (n - mpart n) ps.dropLast false).1, pairH (ps.getLastD []) (regrown x (m - mpart n) (n - mpart n) ps.dropLast false).2.1, (regrown x (m - mpart n) (n - mpart n) ps.dropLast false).2.2)) := Lib.hid (by rw [regrown, if_neg h0, if_neg (by rw [HPL.out]; omega), if_neg (by omega), if_neg hlt])
        have f1 : ¬ (m : Int) ≤ ((mpart n : Nat) : Int) := by omega
        obtain ⟨J, hJ⟩ : ∃ J, J = m - mpart n := ⟨_, rfl⟩
        obtain ⟨M, hM⟩ : ∃ M, M = n - mpart n := ⟨_, rfl⟩
        have i3 : IntKind.i64.wrap ((m : Int) - ((mpart n : Nat) : Int)) = (J : Int) := by rw [IntWalk.i64_in _ (by omega)]; omega
        have i4 : IntKind.i64.wrap ((n : Int) - ((mpart n : Nat) : Int)) = (M : Int) := by rw [IntWalk.i64_in _ (by omega)]; omega
        rw [← hJ, ← hM] at HC
        have HI := Lib.hid (IH.out M (by omega) a0 m0 c0 x J _ l cp ps.dropLast false w.drew HX.out.drew hm0 (HR.out.below (Below.refl _ _).drew) hxr (by omega) (by omega) (by omega) (by omega))
        have hsh := regrown_short x J M ps.dropLast false (by rw [HX.out.1]; exact hm0) hxr
        generalize regrown x J M ps.dropLast false = r at *
        have HRP := Lib.hid hp
        clear hp hJ hM
        go_enter Try.func38, Try.ntmps38
        go_wp2_with fail
        go_region
        go_wp2_with fail
        refine (HPA.out _).mono ?_
        rintro e wq ⟨rfl, rfl⟩
        go_wp2_with fail
        refine HI.out.mono ?_
        rintro e w1 ⟨a1, m1, c1, a3, m3, c3, rfl, hB1, hB3, hb1⟩
        have hU1 := HU.out.drew.below hb1
        have hm1' : m1 ≤ 1000 := by rw [← hB1.1]; exact hsh.1
        have hm3 : m3 ≤ 1000 := by rw [← hB3.1]; exact hsh.2
        go_wp2_with fail
        refine (shapair_any _ _ _ _ _ _ _ _ _ hU1 hB1 (by omega)).mono ?_
        rintro e w2 ⟨v, rfl, hO, hb2⟩
        obtain ⟨a2, c2, rfl, hB2⟩ := hO.bsn (n := 32) (sha_length _)
        have hU2 := hU1.below hb2
        have hB4 := hB3.below hb2
        go_wp2_with fail
        refine (shapair_any _ _ _ _ _ _ _ _ _ hU2 hB4 (by omega)).mono ?_
        rintro e w3 ⟨v', rfl, hO', hb3⟩
        obtain ⟨a5, c5, rfl, hB5⟩ := hO'.bsn (n := 32) (sha_length _)
        have hB2 := hB2.below hb3
        have hE := (((Ext.refl w).drew.step hb1).step hb2).step hb3
        clear hO hb1 hb2 hO' hb3
        go_wp2_with fail
        go_ret3
        exact ⟨_, _, _, _, _, _, congrArg Ending.returned (by rw [HC.out]; rfl), by rw [HC.out]; exact hB2, by rw [HC.out]; exact hB5, hE.1⟩
end Go.Proofs.Ytaomkjnkfkahhaa
