/- The walk of MerklePaths. -/
import Derived.Test.YtaomkjnkfkahhaaMerkM
namespace Go.Proofs.Ytaomkjnkfkahhaa
open Go.RowKit

set_option maxHeartbeats 4000000 in
set_option maxRecDepth 100000 in
theorem MerklePaths_walk (v0 v1 v2 : Value) (w : World) (h0 : Arg Try.prog w 22 v0) (h1 : Arg Try.prog w 3 v1) (h2 : Arg Try.prog w 3 v2) :
    Calls Try.prog 7 #[v0, v1, v2] w fun e w' => e = .returned (.bool true) ∧ Below w.heap.size w w' := by
  obtain ⟨a0, len0, cap0, ls0, rfl, hL0⟩ := h0.lists
  obtain ⟨i0, rfl, _⟩ := h1.int Try.underlying3
  obtain ⟨m0, rfl, _⟩ := h2.int Try.underlying3
  clear h0 h1 h2
  go_enter Try.func7, Try.ntmps7
  go_wp2_with fail
  refine (few_any a0 len0 cap0 ls0 w hL0).mono ?_
  rintro e w1 ⟨v, rfl, hO, hb⟩
  have hE := (Ext.refl w).step hb
  obtain ⟨a, c, rfl, hL⟩ := hO.ll (n := min len0 40) (by rw [fewL_length, hL0.1])
  have hsh : ∀ x ∈ fewL ls0, x.length ≤ 1000 := fun x hx => Nat.le_trans (fewL_short ls0 x hx) (by omega)
  have hn : min len0 40 ≤ 40 := Nat.min_le_right _ _
  have hll := hL.1
  generalize fewL ls0 = L at *
  generalize min len0 40 = n at *
  have HS := Lib.hid hsh
  have HN := Lib.hid hll
  clear hO hb hL0 hsh hll
  by_cases hz : n = 0
  · subst hz
    clear hL
    go_wp2_with fail
    refine (merk_known w1).mono ?_
    rintro e w2 ⟨rfl, hb⟩
    have hE := hE.step hb
    go_wp2_with fail
    go_ret
    exact ⟨rfl, hE.1⟩
  · have g0 : ((n : Int) == 0) = false := by rw [beq_eq_false_iff_ne]; omega
    obtain ⟨I, hI, _, hI2⟩ := within_nat i0 0 (n - 1) (by omega)
    obtain ⟨M, hM, hM1, hM2⟩ := within_nat m0 1 n (by omega)
    have i1 : IntKind.i64.wrap ((n : Int) - 1) = ((n - 1 : Nat) : Int) := by rw [IntWalk.i64_in _ (by omega)]; omega
    have hWI := fun W => within_any i0 (0 : Nat) ((n - 1 : Nat) : Int) W (by omega) (by omega) (by omega)
    have hWM := fun W => within_any m0 (1 : Nat) (n : Int) W (by omega) (by omega) (by omega)
    rw [hI] at hWI
    rw [hM] at hWM
    have HWI := Lib.hid hWI
    have HWM := Lib.hid hWM
    obtain ⟨n1, hn1⟩ : ∃ n1, n1 = n - 1 := ⟨_, rfl⟩
    rw [← hn1] at i1 HWI hI2
    have HN1 := Lib.hid hn1
    have hIn : I < n := by omega
    clear hWI hWM hI hM hn1 hI2
    go_wp2_with fail
    refine (HWI.out _).mono ?_
    rintro e wq ⟨rfl, rfl⟩
    go_wp2_with fail
    refine (HWM.out _).mono ?_
    rintro e wq ⟨rfl, rfl⟩
    clear HWI HWM i1
    go_wp2_with fail
    refine (mpath_yes n a c L I w1 hL HS.out (by omega) hIn).mono ?_
    rintro e w2 ⟨v, rfl, hP, hb⟩
    have hL := hL.below hb
    have hE := hE.step hb
    have hd := dep_le 6 I n (by omega)
    obtain ⟨ap, cp, rfl, hPL⟩ := hP.ll (n := dep I n) (by rw [mpath_length, HN.out])
    have HC1 := Lib.hid (mcheck_path L I n HN.out hIn)
    have HPS := Lib.hid (mpath_shorts L I)
    generalize dep I n = lp at *
    generalize mpath L I = ps at *
    clear hP hb
    go_wp2_with fail
    refine (mgrown_yes n a c L M w2 hL HS.out (by omega) hM1 hM2).mono ?_
    rintro e w3 ⟨v, rfl, hG, hb⟩
    have hL := hL.below hb
    have hE := hE.step hb
    have hPL := hPL.below hb
    have hd2 := gdep_le 6 M n true (by omega)
    obtain ⟨ag, cg, rfl, hGL⟩ := hG.ll (n := gdep M n true) (by rw [mgrown_length, HN.out])
    have HC2 := Lib.hid (mcheckG_grown L M n HN.out hM1 hM2)
    have HGS := Lib.hid (mgrown_shorts L M true)
    generalize gdep M n true = lg at *
    generalize mgrown L M true = gs at *
    clear hG hb
    go_wp2_with fail
    refine (root_any n a c L w3 hL HS.out (by omega)).mono ?_
    rintro e w4 ⟨v, rfl, hO, hb⟩
    have hL := hL.below hb
    have hE := hE.step hb
    have hPL := hPL.below hb
    have hGL := hGL.below hb
    obtain ⟨ar, cr, rfl, hRt⟩ := hO.bsn (n := 32) (mroot_length _)
    obtain ⟨b, off, al, ml, cl, rfl, hCl, hBl⟩ := hL.row hIn
    have hml : ml ≤ 1000 := by rw [← hBl.1]; exact getD_short HS.out I
    have hcell := hCl.2
    have e1 : (0 : Int) ≤ (I : Int) := by omega
    have e2 : (I : Int) < (n : Int) := by omega
    have e3 : (0 : Int) ≤ (M : Int) := by omega
    have hnc := hL.2.1
    have e4 : (M : Int) ≤ (c : Int) := by omega
    have e5 : M ≤ c := by omega
    have e6 : (lp : Int) ≤ 6 := by omega
    have e7 : (lg : Int) ≤ 7 := by omega
    clear hO hb hCl
    go_wp2_with fail
    refine (check_eq _ _ _ _ _ _ _ _ (I : Int) (n : Int) _ _ _ _ true _ hRt hBl hPL HPS.out hml (by omega) (by omega) HC1.out).mono ?_
    rintro e w5 ⟨rfl, hb⟩
    have hT := (hL.take hM2).below hb
    have hE := hE.step hb
    have hGL := hGL.below hb
    have hRt := hRt.below hb
    clear hb hcell hBl hPL hL
    go_wp2_with fail
    refine (root_any M _ c (L.take M) w5 hT (take_short HS.out M) (by omega)).mono ?_
    rintro e w6 ⟨v, rfl, hO, hb⟩
    have hE := hE.step hb
    have hGL := hGL.below hb
    have hRt := hRt.below hb
    obtain ⟨ao, co, rfl, hOl⟩ := hO.bsn (n := 32) (mroot_length _)
    clear hb hO hT
    go_wp2_with fail
    refine (checkG_eq _ _ _ _ _ _ _ _ (M : Int) (n : Int) _ _ _ _ true _ hOl hRt hGL HGS.out (by omega) (by omega) (by omega) HC2.out).mono ?_
    rintro e w7 ⟨rfl, hb⟩
    have hE := hE.step hb
    clear hb hOl hRt hGL
    go_wp2_with fail
    refine (merk_known w7).mono ?_
    rintro e w8 ⟨rfl, hb⟩
    have hE := hE.step hb
    go_wp2_with fail
    go_ret
    exact ⟨rfl, hE.1⟩
end Go.Proofs.Ytaomkjnkfkahhaa
