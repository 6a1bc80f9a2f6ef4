/- The walk of FaultChains. -/
import Derived.Test.YtmbkcohkmedpgaaDoorFtCh
import Derived.Test.YtmbkcohkmedpgaaDoorFaultOuterWalk
import Derived.Test.YtmbkcohkmedpgaaDoorWithin
namespace Go.Proofs.YtmbkcohkmedpgaaDoor
open Go.RowKit

set_option maxHeartbeats 4000000 in
set_option maxRecDepth 100000 in
theorem fchains_any (a : Option Addr) (len cap : Nat) (xs : List (List UInt8 × List UInt8)) (code asked : Int) (w : World) (hG : Gl w) (hLk : Links w a len cap xs) :
    Calls Tryd.prog 4 #[.slice a len cap, .int .i64 code, .int .i64 asked] w fun e w' => e = .returned (.bool true) ∧ Below w.heap.size w w' := by
  have hwb := within_bd code 0 300 (by decide)
  have HWi := Lib.hid (fun w => within_any code 0 300 w (by decide) (by decide) (by decide))
  generalize within code 0 300 = C at *
  obtain ⟨c, rfl⟩ : ∃ c : Nat, C = (c : Int) := ⟨C.toNat, by omega⟩
  by_cases h : len ≤ 30
  · obtain ⟨m, hme⟩ : ∃ m, m = len := ⟨_, rfl⟩
    have hm : len ≤ 30 := h
    have hY := hLk
    rw [← hme] at hY hm ⊢
    obtain ⟨ys, hys⟩ : ∃ ys, ys = xs := ⟨_, rfl⟩
    rw [← hys] at hY
    clear hme hys hLk h
    have hm2 : ¬ (30 : Int) < (m : Int) := by omega
    have hG0 := hG
    go_enter Tryd.func4, Tryd.ntmps4
    go_wp2_with fail
    refine (HWi.out w).mono ?_
    rintro e w0 ⟨rfl, rfl⟩
    clear HWi hG0
    go_wp2_with fail
    by_cases hc : c = 0
    · obtain rfl : c = 0 := by omega
      refine (chain_zero a m cap ys w hG hY (by omega)).mono ?_
      rintro e w1 ⟨va, L, rfl, hA, hL0, hLn, hb⟩
      have HS := Lib.hid (show St2 w w1 L [] va [] va from ⟨(Ext.refl w).step hb, hG.below hb, hA, hA⟩)
      have HLN := Lib.hid (And.intro hL0 hLn)
      clear hb hA hL0 hLn
      go_wp2_with fail
      refine (depth_any _ _ _ _ HS.out.2.1 HS.out.2.2.2 (by simp)).mono ?_
      rintro e w11 ⟨he, hb⟩
      have hS := HS.out.below hb
      clear hb HS
      have HS := Lib.hid hS
      clear hS
      rw [List.length_nil] at he
      subst he
      go_wp2_with fail
      refine (code_any _ _ _ _ HS.out.2.1 HS.out.2.2.2).mono ?_
      rintro e w12 ⟨he, hb⟩
      have hS := HS.out.below hb
      clear hb HS
      have HS := Lib.hid hS
      clear hS
      rw [HLN.out.1] at he
      subst he
      by_cases hm0 : m = 0
      · subst hm0
        go_wp2_with fail
        refine (law1_known _ HS.out.2.1).mono ?_
        rintro e w13 ⟨rfl, hb⟩
        have hS := HS.out.below hb
        clear hb HS
        have HS := Lib.hid hS
        clear hS
        go_wp2_with fail
        go_ret
        exact ⟨rfl, HS.out.1.1⟩
      · have hLN := HLN.out.2 (by omega)
        subst hLN
        have hva : va = .nilIface := HS.out.2.2.2
        subst hva
        have hm1 : ((m : Int) == 0) = false := by simp; omega
        have hm2 : ¬ (m : Int) = 0 := by omega
        go_wp2_with fail
        refine (law1_known _ HS.out.2.1).mono ?_
        rintro e w13 ⟨rfl, hb⟩
        have hS := HS.out.below hb
        clear hb HS
        have HS := Lib.hid hS
        clear hS
        go_wp2_with fail
        go_ret
        exact ⟨rfl, HS.out.1.1⟩
    · have hT0 := erTxt_len c ys
      obtain ⟨T, hT⟩ : ∃ T, T = erTxt (.errno (c : Int)) (chn ys) := ⟨_, rfl⟩
      rw [← hT] at hT0
      have HT := Lib.hid hT
      obtain ⟨r, hr⟩ : ∃ r, (asked == (c : Int)) = r := ⟨_, rfl⟩
      have hac : ((c : Int) == asked) = r := by rw [← hr]; exact BEq.comm
      have hrr : (r == r) = true := by simp
      have hcc : ((c : Int) != (c : Int)) = false := by simp
      have hmm : ((m : Int) != (m : Int)) = false := by simp
      have hc0 : ((c : Int) == 0) = false := by simp; omega
      have hc1 : ¬ (c : Int) = 0 := by omega
      have hyl := hY.1
      clear hT
      refine (chain_ok a m cap ys (c : Int) w hG hY (by omega) (by omega)).mono ?_
      rintro e w1 ⟨va, rfl, hA, hb⟩
      have hna : va ≠ .nilIface := by rintro rfl; have := hA.nil.2; cases this
      have hAi := hA.iface hna
      obtain ⟨S, x, rfl⟩ := hAi
      have HS := Lib.hid (show St2 w w1 (.errno (c : Int)) (chn ys) (.iface S x) (chn ys) (.iface S x) from ⟨(Ext.refl w).step hb, hG.below hb, hA, hA⟩)
      have HY := Lib.hid hY
      clear hb hA hna hY hG
      go_wp2_with fail
      refine (said_any _ _ _ _ HS.out.2.1 HS.out.2.2.1 ⟨by omega, by omega⟩ (fun _ => ⟨_, rfl⟩) (by rw [← HT.out]; omega)).mono ?_
      rintro e w14 ⟨he, hb⟩
      have hS := HS.out.below hb
      clear hb HS
      have HS := Lib.hid hS
      clear hS
      rw [said_errno, ← HT.out] at he
      subst he
      go_wp2_with fail
      refine (text_any a m cap ys c _ (HY.out.below HS.out.1.1) (by omega) (by omega)).mono ?_
      rintro e w15 ⟨he, hb⟩
      have hS := HS.out.below hb
      clear hb HS
      have HS := Lib.hid hS
      clear hS
      rw [← HT.out] at he
      subst he
      go_wp2_with fail
      refine (code_any _ _ _ _ HS.out.2.1 HS.out.2.2.2).mono ?_
      rintro e w16 ⟨he, hb⟩
      have hS := HS.out.below hb
      clear hb HS
      have HS := Lib.hid hS
      clear hS
      replace he : e = .returned (.int .i64 (c : Int)) := he
      subst he
      go_wp2_with fail
      refine (depth_any _ _ _ _ HS.out.2.1 HS.out.2.2.2 (by rw [chn_len, HY.out.1]; omega)).mono ?_
      rintro e w17 ⟨he, hb⟩
      have hS := HS.out.below hb
      clear hb HS
      have HS := Lib.hid hS
      clear hS
      rw [chn_len, HY.out.1] at he
      subst he
      go_wp2_with fail
      refine (where_any _ _ _ _ HS.out.2.1 HS.out.2.2.2).mono ?_
      rintro e w18 ⟨he, hb⟩
      have hS := HS.out.below hb
      clear hb HS
      have HS := Lib.hid hS
      clear hS
      by_cases hm0 : m = 0
      · subst hm0
        have hy0 : ys = [] := List.length_eq_zero_iff.1 HY.out.1
        have he2 : whV (chn ys) = .tuple #[.string (strOf []), .string (strOf []), .bool false] := by rw [hy0]; rfl
        rw [he2] at he
        subst he
        clear he2 hy0
        go_wp2_with fail
        refine (fis_any _ _ _ (c : Int) _ HS.out.2.2.2).mono ?_
        rintro e w19 ⟨he, hw⟩
        replace he : e = .returned (.bool ((c : Int) == (c : Int))) := he
        rw [beq_self_eq_true] at he
        subst he
        subst hw
        go_wp2_with fail
        refine (fis_any _ _ _ asked _ HS.out.2.2.2).mono ?_
        rintro e w20 ⟨he, hw⟩
        replace he : e = .returned (.bool ((c : Int) == asked)) := he
        rw [hac] at he
        subst he
        subst hw
        go_wp2_with fail
        refine (Is37_any _ _ _ (c : Int) _ HS.out.2.2.2).mono ?_
        rintro e w21 ⟨he, hw⟩
        replace he : e = .returned (.bool ((c : Int) == (c : Int))) := he
        rw [beq_self_eq_true] at he
        subst he
        subst hw
        go_wp2_with fail
        refine (law1_known _ HS.out.2.1).mono ?_
        rintro e w22 ⟨rfl, hb⟩
        have hS := HS.out.below hb
        clear hb HS
        have HS := Lib.hid hS
        clear hS
        go_wp2_with fail
        go_ret
        exact ⟨rfl, HS.out.1.1⟩
      · obtain ⟨k, rfl⟩ : ∃ k, m = k + 1 := ⟨m - 1, by omega⟩
        have hkl : k < ys.length := by rw [HY.out.1]; omega
        have hys : chn ys = hx ys[k] :: chn (ys.take k) := by rw [← chn_snoc ys k hkl, List.take_of_length_le (by rw [HY.out.1]; omega)]
        have he2 : whV (chn ys) = .tuple #[.string (strOf (ys[k].1.take 20)), .string (strOf (ys[k].2.take 40)), .bool true] := by rw [hys]; rfl
        rw [he2] at he
        subst he
        have hYw := HY.out.below HS.out.1.1
        obtain ⟨b, off, hab⟩ := hYw.at (by omega)
        have hck := hYw.cells k hkl b off hab
        obtain ⟨k0, k1⟩ := hck
        have HH1 := Lib.hid (fun w => head_any ys[k].1 20 (by decide) w)
        have HH2 := Lib.hid (fun w => head_any ys[k].2 40 (by decide) w)
        generalize strOf (ys[k].1.take 20) = s1 at *
        generalize strOf (ys[k].2.take 40) = s2 at *
        generalize strOf ys[k].1 = t1 at *
        generalize strOf ys[k].2 = t2 at *
        subst hab
        clear he2 hys hYw
        have hkw : IntKind.i64.wrap (((k + 1 : Nat) : Int) - 1) = (k : Int) := by rw [IntWalk.i64_in _ (by omega)]; omega
        have hk1 : (0 : Int) < ((k + 1 : Nat) : Int) := by omega
        have hk2 : (k : Int) < ((k + 1 : Nat) : Int) := by omega
        have hk0 : (0 : Int) ≤ (k : Int) := by omega
        have hS2 := HS.out.below ((Below.refl w18.heap.size w18).alloc (Nat.le_refl _) (.cells #[.string t1, .string t2] 34))
        have hD := heap_alloc_new w18 (.cells #[.string t1, .string t2] 34)
        clear HS
        go_upto_region 14 with fail
        generalize w18.alloc (.cells #[.string t1, .string t2] 34) = wD at *
        generalize w18.heap.size = X at *
        have d0 := cells_at hD 0
        have d1 := cells_at hD 1
        simp only [List.getElem?_toArray, List.getElem?_cons_zero, List.getElem?_cons_succ] at d0 d1
        have HS := Lib.hid hS2
        clear hS2 hD k0 k1
        go_wp2_with fail
        refine (HH1.out _).mono ?_
        rintro e wq ⟨rfl, rfl⟩
        go_wp2_with fail
        refine (HH2.out _).mono ?_
        rintro e wq ⟨rfl, rfl⟩
        clear HH1 HH2 d0 d1
        go_wp2_with fail
        refine (fis_any _ _ _ (c : Int) _ HS.out.2.2.2).mono ?_
        rintro e w23 ⟨he, hw⟩
        replace he : e = .returned (.bool ((c : Int) == (c : Int))) := he
        rw [beq_self_eq_true] at he
        subst he
        subst hw
        go_wp2_with fail
        refine (fis_any _ _ _ asked _ HS.out.2.2.2).mono ?_
        rintro e w24 ⟨he, hw⟩
        replace he : e = .returned (.bool ((c : Int) == asked)) := he
        rw [hac] at he
        subst he
        subst hw
        go_wp2_with fail
        refine (Is37_any _ _ _ (c : Int) _ HS.out.2.2.2).mono ?_
        rintro e w25 ⟨he, hw⟩
        replace he : e = .returned (.bool ((c : Int) == (c : Int))) := he
        rw [beq_self_eq_true] at he
        subst he
        subst hw
        go_wp2_with fail
        refine (law1_known _ HS.out.2.1).mono ?_
        rintro e w26 ⟨rfl, hb⟩
        have hS := HS.out.below hb
        clear hb HS
        have HS := Lib.hid hS
        clear hS
        go_wp2_with fail
        go_ret
        exact ⟨rfl, HS.out.1.1⟩
  · have hY := hLk.take (k := 30) (by omega)
    have hcap : 30 ≤ cap := by have := hLk.2.1; omega
    have hm2 : (30 : Int) < (len : Int) := by omega
    obtain ⟨ys, hys⟩ : ∃ ys, ys = xs.take 30 := ⟨_, rfl⟩
    rw [← hys] at hY
    clear hys hLk
    have hcI : (30 : Int) ≤ (cap : Int) := by omega
    have hG0 := hG
    go_enter Tryd.func4, Tryd.ntmps4
    go_wp2_with fail
    refine (HWi.out w).mono ?_
    rintro e w0 ⟨rfl, rfl⟩
    clear HWi hG0
    go_wp2_with fail
    by_cases hc : c = 0
    · obtain rfl : c = 0 := by omega
      refine (chain_zero a 30 cap ys w hG hY (by omega)).mono ?_
      rintro e w1 ⟨va, L, rfl, hA, hL0, hLn, hb⟩
      have HS := Lib.hid (show St2 w w1 L [] va [] va from ⟨(Ext.refl w).step hb, hG.below hb, hA, hA⟩)
      have HLN := Lib.hid (And.intro hL0 hLn)
      clear hb hA hL0 hLn
      go_wp2_with fail
      refine (depth_any _ _ _ _ HS.out.2.1 HS.out.2.2.2 (by simp)).mono ?_
      rintro e w27 ⟨he, hb⟩
      have hS := HS.out.below hb
      clear hb HS
      have HS := Lib.hid hS
      clear hS
      rw [List.length_nil] at he
      subst he
      go_wp2_with fail
      refine (code_any _ _ _ _ HS.out.2.1 HS.out.2.2.2).mono ?_
      rintro e w28 ⟨he, hb⟩
      have hS := HS.out.below hb
      clear hb HS
      have HS := Lib.hid hS
      clear hS
      rw [HLN.out.1] at he
      subst he
      by_cases hm0 : 30 = 0
      · omega
      · have hLN := HLN.out.2 (by omega)
        subst hLN
        have hva : va = .nilIface := HS.out.2.2.2
        subst hva
        go_wp2_with fail
        refine (law1_known _ HS.out.2.1).mono ?_
        rintro e w29 ⟨rfl, hb⟩
        have hS := HS.out.below hb
        clear hb HS
        have HS := Lib.hid hS
        clear hS
        go_wp2_with fail
        go_ret
        exact ⟨rfl, HS.out.1.1⟩
    · have hT0 := erTxt_len c ys
      obtain ⟨T, hT⟩ : ∃ T, T = erTxt (.errno (c : Int)) (chn ys) := ⟨_, rfl⟩
      rw [← hT] at hT0
      have HT := Lib.hid hT
      obtain ⟨r, hr⟩ : ∃ r, (asked == (c : Int)) = r := ⟨_, rfl⟩
      have hac : ((c : Int) == asked) = r := by rw [← hr]; exact BEq.comm
      have hrr : (r == r) = true := by simp
      have hcc : ((c : Int) != (c : Int)) = false := by simp
      have hmm : ((30 : Int) != (30 : Int)) = false := by simp
      have hc0 : ((c : Int) == 0) = false := by simp; omega
      have hc1 : ¬ (c : Int) = 0 := by omega
      have hyl := hY.1
      clear hT
      refine (chain_ok a 30 cap ys (c : Int) w hG hY (by omega) (by omega)).mono ?_
      rintro e w1 ⟨va, rfl, hA, hb⟩
      have hna : va ≠ .nilIface := by rintro rfl; have := hA.nil.2; cases this
      have hAi := hA.iface hna
      obtain ⟨S, x, rfl⟩ := hAi
      have HS := Lib.hid (show St2 w w1 (.errno (c : Int)) (chn ys) (.iface S x) (chn ys) (.iface S x) from ⟨(Ext.refl w).step hb, hG.below hb, hA, hA⟩)
      have HY := Lib.hid hY
      clear hb hA hna hY hG
      go_wp2_with fail
      refine (said_any _ _ _ _ HS.out.2.1 HS.out.2.2.1 ⟨by omega, by omega⟩ (fun _ => ⟨_, rfl⟩) (by rw [← HT.out]; omega)).mono ?_
      rintro e w30 ⟨he, hb⟩
      have hS := HS.out.below hb
      clear hb HS
      have HS := Lib.hid hS
      clear hS
      rw [said_errno, ← HT.out] at he
      subst he
      go_wp2_with fail
      refine (text_any a 30 cap ys c _ (HY.out.below HS.out.1.1) (by omega) (by omega)).mono ?_
      rintro e w31 ⟨he, hb⟩
      have hS := HS.out.below hb
      clear hb HS
      have HS := Lib.hid hS
      clear hS
      rw [← HT.out] at he
      subst he
      go_wp2_with fail
      refine (code_any _ _ _ _ HS.out.2.1 HS.out.2.2.2).mono ?_
      rintro e w32 ⟨he, hb⟩
      have hS := HS.out.below hb
      clear hb HS
      have HS := Lib.hid hS
      clear hS
      replace he : e = .returned (.int .i64 (c : Int)) := he
      subst he
      go_wp2_with fail
      refine (depth_any _ _ _ _ HS.out.2.1 HS.out.2.2.2 (by rw [chn_len, HY.out.1]; omega)).mono ?_
      rintro e w33 ⟨he, hb⟩
      have hS := HS.out.below hb
      clear hb HS
      have HS := Lib.hid hS
      clear hS
      rw [chn_len, HY.out.1] at he
      subst he
      go_wp2_with fail
      refine (where_any _ _ _ _ HS.out.2.1 HS.out.2.2.2).mono ?_
      rintro e w34 ⟨he, hb⟩
      have hS := HS.out.below hb
      clear hb HS
      have HS := Lib.hid hS
      clear hS
      obtain ⟨k, hk⟩ : ∃ k, k = 29 := ⟨_, rfl⟩
      have hkl : k < ys.length := by rw [HY.out.1]; omega
      have hys : chn ys = hx ys[k] :: chn (ys.take k) := by rw [← chn_snoc ys k hkl, List.take_of_length_le (by rw [HY.out.1]; omega)]
      have he2 : whV (chn ys) = .tuple #[.string (strOf (ys[k].1.take 20)), .string (strOf (ys[k].2.take 40)), .bool true] := by rw [hys]; rfl
      rw [he2] at he
      subst he
      have hYw := HY.out.below HS.out.1.1
      obtain ⟨b, off, hab⟩ := hYw.at (by omega)
      have hck := hYw.cells k hkl b off hab
      obtain ⟨k0, k1⟩ := hck
      have HH1 := Lib.hid (fun w => head_any ys[k].1 20 (by decide) w)
      have HH2 := Lib.hid (fun w => head_any ys[k].2 40 (by decide) w)
      generalize strOf (ys[k].1.take 20) = s1 at *
      generalize strOf (ys[k].2.take 40) = s2 at *
      generalize strOf ys[k].1 = t1 at *
      generalize strOf ys[k].2 = t2 at *
      subst hab
      clear he2 hys hYw
      subst hk
      have hS2 := HS.out.below ((Below.refl w34.heap.size w34).alloc (Nat.le_refl _) (.cells #[.string t1, .string t2] 34))
      have hD := heap_alloc_new w34 (.cells #[.string t1, .string t2] 34)
      clear HS
      go_upto_region 14 with fail
      generalize w34.alloc (.cells #[.string t1, .string t2] 34) = wD at *
      generalize w34.heap.size = X at *
      have d0 := cells_at hD 0
      have d1 := cells_at hD 1
      simp only [List.getElem?_toArray, List.getElem?_cons_zero, List.getElem?_cons_succ] at d0 d1
      have HS := Lib.hid hS2
      clear hS2 hD k0 k1
      go_wp2_with fail
      refine (HH1.out _).mono ?_
      rintro e wq ⟨rfl, rfl⟩
      go_wp2_with fail
      refine (HH2.out _).mono ?_
      rintro e wq ⟨rfl, rfl⟩
      clear HH1 HH2 d0 d1
      go_wp2_with fail
      refine (fis_any _ _ _ (c : Int) _ HS.out.2.2.2).mono ?_
      rintro e w35 ⟨he, hw⟩
      replace he : e = .returned (.bool ((c : Int) == (c : Int))) := he
      rw [beq_self_eq_true] at he
      subst he
      subst hw
      go_wp2_with fail
      refine (fis_any _ _ _ asked _ HS.out.2.2.2).mono ?_
      rintro e w36 ⟨he, hw⟩
      replace he : e = .returned (.bool ((c : Int) == asked)) := he
      rw [hac] at he
      subst he
      subst hw
      go_wp2_with fail
      refine (Is37_any _ _ _ (c : Int) _ HS.out.2.2.2).mono ?_
      rintro e w37 ⟨he, hw⟩
      replace he : e = .returned (.bool ((c : Int) == (c : Int))) := he
      rw [beq_self_eq_true] at he
      subst he
      subst hw
      go_wp2_with fail
      refine (law1_known _ HS.out.2.1).mono ?_
      rintro e w38 ⟨rfl, hb⟩
      have hS := HS.out.below hb
      clear hb HS
      have HS := Lib.hid hS
      clear hS
      go_wp2_with fail
      go_ret
      exact ⟨rfl, HS.out.1.1⟩
theorem FaultChains_walk (v0 v1 v2 : Value) (w : World) (hG : Gl w) (h0 : Arg Tryd.prog w 22 v0) (h1 : Arg Tryd.prog w 3 v1) (h2 : Arg Tryd.prog w 3 v2) :
    Calls Tryd.prog 4 #[v0, v1, v2] w fun e w' => e = .returned (.bool true) ∧ Below w.heap.size w w' := by
  obtain ⟨a, len, cap, xs, rfl, hLk⟩ := h0.links
  obtain ⟨n, rfl, _⟩ := h1.int Tryd.underlying3
  obtain ⟨m, rfl, _⟩ := h2.int Tryd.underlying3
  exact fchains_any a len cap xs n m w hG hLk
end Go.Proofs.YtmbkcohkmedpgaaDoor
