/- The walk of FaultOuter. -/
import Derived.Test.YtmbkcohkmedpgaaDoorFtCh
import Derived.Test.YtmbkcohkmedpgaaDoorWithin
namespace Go.Proofs.YtmbkcohkmedpgaaDoor
open Go.RowKit

theorem said_errno (k : Int) (l : List (List UInt8 × List UInt8)) : saidTxt (.errno k) l = erTxt (.errno k) l := by cases l <;> rfl
/-- two errors of one number -/
def St2 (w wx : World) (L : Leaf) (la : List (List UInt8 × List UInt8)) (va : Value) (lb : List (List UInt8 × List UInt8)) (vb : Value) : Prop :=
  Ext w.heap.size w wx ∧ Gl wx ∧ Er wx L la va ∧ Er wx L lb vb
theorem St2.below {w wx wy : World} {L : Leaf} {la lb : List (List UInt8 × List UInt8)} {va vb : Value} (h : St2 w wx L la va lb vb) (hb : Below wx.heap.size wx wy) : St2 w wy L la va lb vb :=
  ⟨h.1.step hb, h.2.1.below hb, h.2.2.1.below hb, h.2.2.2.below hb⟩
set_option maxHeartbeats 4000000 in
set_option maxRecDepth 100000 in
theorem fouter_any (a : Option Addr) (len cap : Nat) (xs : List (List UInt8 × List UInt8)) (code : Int) (op path : List UInt8) (w : World) (hG : Gl w) (hLk : Links w a len cap xs) :
    Calls Tryd.prog 5 #[.slice a len cap, .int .i64 code, .string (strOf op), .string (strOf path)] w fun e w' => e = .returned (.bool true) ∧ Below w.heap.size w w' := by
  have hwb := within_bd code 1 300 (by decide)
  have HWi := Lib.hid (fun w => within_any code 1 300 w (by decide) (by decide) (by decide))
  generalize within code 1 300 = C at *
  obtain ⟨c, rfl⟩ : ∃ c : Nat, C = (c : Int) := ⟨C.toNat, by omega⟩
  have HH1 := Lib.hid (fun w => head_any op 20 (by decide) w)
  have HH2 := Lib.hid (fun w => head_any path 30 (by decide) w)
  have hAl : (op.take 20).length ≤ 20 := by simp; omega
  have hBl : (path.take 30).length ≤ 30 := by simp; omega
  generalize op.take 20 = A at *
  generalize path.take 30 = B at *
  by_cases h : len ≤ 20
  · have hm : len ≤ 20 := h
    obtain ⟨m, hme⟩ : ∃ m, m = len := ⟨_, rfl⟩
    have hY := hLk
    rw [← hme] at hY hm ⊢
    obtain ⟨ys, hys⟩ : ∃ ys, ys = xs := ⟨_, rfl⟩
    rw [← hys] at hY
    clear hme hys hLk h
    have hm2 : ¬ (20 : Int) < (m : Int) := by omega
    have hcc : ((c : Int) == (c : Int) + 1) = false := by simp; omega
    have hyl : ys.length = m := hY.1
    have hw1 : IntKind.i64.wrap ((c : Int) + 1) = (c : Int) + 1 := IntWalk.i64_in _ (by omega)
    have hw2 : IntKind.i64.wrap ((m : Int) + 1) = ((m + 1 : Nat) : Int) := by rw [IntWalk.i64_in _ (by omega)]; omega
    have hT0 := erTxt_len c ys
    have hTe : erTxt (.errno (c : Int)) ((A, B) :: chn ys) = lnTxt (A, B) ++ erTxt (.errno (c : Int)) (chn ys) := rfl
    have hTl : (erTxt (.errno (c : Int)) ((A, B) :: chn ys)).length ≤ 1000000000 := by rw [hTe]; simp only [lnTxt, List.length_append, List.length_cons, List.length_nil]; omega
    generalize hT : erTxt (.errno (c : Int)) (chn ys) = T at *
    have e1 : strOf A ++ (⟨#[32]⟩ : ByteArray) = strOf (A ++ [32]) := strOf_append A [32]
    have e2 : strOf (A ++ [32]) ++ strOf B = strOf (A ++ [32] ++ B) := strOf_append _ _
    have e3 : strOf (A ++ [32] ++ B) ++ (⟨#[58, 32]⟩ : ByteArray) = strOf (lnTxt (A, B)) := strOf_append _ [58, 32]
    have e4 : strOf (lnTxt (A, B)) ++ strOf T = strOf (lnTxt (A, B) ++ T) := strOf_append _ _
    have z1 : ¬ 9223372036854775807 < (strOf A).size + 1 := by rw [strOf_size]; omega
    have z2 : ¬ 9223372036854775807 < (strOf (A ++ [32])).size + (strOf B).size := by rw [strOf_size, strOf_size]; simp; omega
    have z3 : ¬ 9223372036854775807 < (strOf (A ++ [32] ++ B)).size + 2 := by rw [strOf_size]; simp; omega
    have z4 : ¬ 9223372036854775807 < (strOf (lnTxt (A, B))).size + (strOf T).size := by rw [strOf_size, strOf_size]; simp [lnTxt]; omega
    generalize strOf (lnTxt (A, B)) = s3 at *
    generalize strOf (A ++ [32] ++ B) = s2 at *
    generalize strOf (A ++ [32]) = s1 at *
    have hG0 := hG
    go_enter Tryd.func5, Tryd.ntmps5
    go_wp2_with fail
    refine (HWi.out w).mono ?_
    rintro e w0 ⟨rfl, rfl⟩
    go_wp2_with fail
    refine (HH1.out w).mono ?_
    rintro e w1 ⟨rfl, rfl⟩
    go_wp2_with fail
    refine (HH2.out w).mono ?_
    rintro e w1 ⟨rfl, rfl⟩
    clear HH1 HH2 HWi hG0
    go_wp2_with fail
    refine (chain_ok a m cap ys (c : Int) w hG hY (by omega) (by omega)).mono ?_
    rintro e w1 ⟨va, rfl, hA, hb⟩
    have hE := (Ext.refl w).step hb
    have hG1 := hG.below hb
    have hWr := Lib.hid (wrap_ok (.errno (c : Int)) (chn ys) (A, B) va w1 hG1 hA (by show (c : Int) ≠ 0; omega))
    have hna : va ≠ .nilIface := by rintro rfl; have := hA.nil.2; cases this
    have hAi := hA.iface hna
    obtain ⟨S, x, rfl⟩ := hAi
    have HP := Lib.hid (And.intro hE (And.intro hG1 hA))
    clear hb hE hG1 hA hna hG hY
    go_wp2_with fail
    refine hWr.out.mono ?_
    rintro e w2 ⟨⟨b, rfl, hB⟩, hb⟩
    have HS := Lib.hid (show St2 w w2 (.errno (c : Int)) (chn ys) (.iface S x) ((A, B) :: chn ys) (.iface 27 (.pointer (some ⟨b, 0, none⟩))) from ⟨HP.out.1.step hb, HP.out.2.1.below hb, HP.out.2.2.below hb, hB⟩)
    clear HP hb hB hWr
    go_wp2_with fail
    refine (where_any _ _ _ _ HS.out.2.1 HS.out.2.2.2).mono ?_
    rintro e w11 ⟨he, hb⟩
    have hS := HS.out.below hb
    clear hb HS
    have HS := Lib.hid hS
    clear hS
    replace he : e = .returned (.tuple #[.string (strOf A), .string (strOf B), .bool true]) := he
    subst he
    go_wp2_with fail
    refine (code_any _ _ _ _ HS.out.2.1 HS.out.2.2.2).mono ?_
    rintro e w12 ⟨he, hb⟩
    have hS := HS.out.below hb
    clear hb HS
    have HS := Lib.hid hS
    clear hS
    replace he : e = .returned (.int .i64 (c : Int)) := he
    subst he
    go_wp2_with fail
    refine (code_any _ _ _ _ HS.out.2.1 HS.out.2.2.1).mono ?_
    rintro e w13 ⟨he, hb⟩
    have hS := HS.out.below hb
    clear hb HS
    have HS := Lib.hid hS
    clear hS
    replace he : e = .returned (.int .i64 (c : Int)) := he
    subst he
    go_wp2_with fail
    refine (depth_any _ _ _ _ HS.out.2.1 HS.out.2.2.2 (by simp [chn_len]; omega)).mono ?_
    rintro e w14 ⟨he, hb⟩
    have hS := HS.out.below hb
    clear hb HS
    have HS := Lib.hid hS
    clear hS
    rw [List.length_cons, chn_len, hyl] at he
    subst he
    go_wp2_with fail
    refine (depth_any _ _ _ _ HS.out.2.1 HS.out.2.2.1 (by rw [chn_len]; omega)).mono ?_
    rintro e w15 ⟨he, hb⟩
    have hS := HS.out.below hb
    clear hb HS
    have HS := Lib.hid hS
    clear hS
    rw [chn_len, hyl] at he
    subst he
    go_wp2_with fail
    refine (fis_any _ _ _ (c : Int) _ HS.out.2.2.2).mono ?_
    rintro e w16 ⟨he, hw⟩
    replace he : e = .returned (.bool ((c : Int) == (c : Int))) := he
    rw [beq_self_eq_true] at he
    subst he
    subst hw
    go_wp2_with fail
    refine (fis_any _ _ _ ((c : Int) + 1) _ HS.out.2.2.2).mono ?_
    rintro e w17 ⟨he, hw⟩
    replace he : e = .returned (.bool ((c : Int) == (c : Int) + 1)) := he
    rw [hcc] at he
    subst he
    subst hw
    go_wp2_with fail
    refine (said_any _ _ _ _ HS.out.2.1 HS.out.2.2.2 ⟨by omega, by omega⟩ (fun h => by cases h) hTl).mono ?_
    rintro e w18 ⟨he, hb⟩
    have hS := HS.out.below hb
    clear hb HS
    have HS := Lib.hid hS
    clear hS
    rw [said_errno, hTe] at he
    subst he
    go_wp2_with fail
    refine (said_any _ _ _ _ HS.out.2.1 HS.out.2.2.1 ⟨by omega, by omega⟩ (fun _ => ⟨_, rfl⟩) (by rw [hT]; omega)).mono ?_
    rintro e w19 ⟨he, hb⟩
    have hS := HS.out.below hb
    clear hb HS
    have HS := Lib.hid hS
    clear hS
    rw [said_errno, hT] at he
    subst he
    go_wp2_with fail
    refine (Is37_any _ _ _ (c : Int) _ HS.out.2.2.2).mono ?_
    rintro e w20 ⟨he, hw⟩
    replace he : e = .returned (.bool ((c : Int) == (c : Int))) := he
    rw [beq_self_eq_true] at he
    subst he
    subst hw
    go_wp2_with fail
    refine (law1_known _ HS.out.2.1).mono ?_
    rintro e w21 ⟨rfl, hb⟩
    have hS := HS.out.below hb
    clear hb HS
    have HS := Lib.hid hS
    clear hS
    go_wp2_with fail
    go_ret
    exact ⟨rfl, HS.out.1.1⟩
  · have hY := hLk.take (k := 20) (by omega)
    have hcap : 20 ≤ cap := by have := hLk.2.1; omega
    have hm2 : (20 : Int) < (len : Int) := by omega
    obtain ⟨m, hme⟩ : ∃ m, m = 20 := ⟨_, rfl⟩
    have hm : m ≤ 20 := by omega
    obtain ⟨ys, hys⟩ : ∃ ys, ys = xs.take 20 := ⟨_, rfl⟩
    rw [← hys, ← hme] at hY
    clear hys hLk
    subst hme
    have hcI : (20 : Int) ≤ (cap : Int) := by omega
    have hcc : ((c : Int) == (c : Int) + 1) = false := by simp; omega
    have hyl : ys.length = 20 := hY.1
    have hw1 : IntKind.i64.wrap ((c : Int) + 1) = (c : Int) + 1 := IntWalk.i64_in _ (by omega)
    have hw2 : IntKind.i64.wrap ((20 : Int) + 1) = 21 := by rw [IntWalk.i64_in _ (by omega)]; omega
    have hT0 := erTxt_len c ys
    have hTe : erTxt (.errno (c : Int)) ((A, B) :: chn ys) = lnTxt (A, B) ++ erTxt (.errno (c : Int)) (chn ys) := rfl
    have hTl : (erTxt (.errno (c : Int)) ((A, B) :: chn ys)).length ≤ 1000000000 := by rw [hTe]; simp only [lnTxt, List.length_append, List.length_cons, List.length_nil]; omega
    generalize hT : erTxt (.errno (c : Int)) (chn ys) = T at *
    have e1 : strOf A ++ (⟨#[32]⟩ : ByteArray) = strOf (A ++ [32]) := strOf_append A [32]
    have e2 : strOf (A ++ [32]) ++ strOf B = strOf (A ++ [32] ++ B) := strOf_append _ _
    have e3 : strOf (A ++ [32] ++ B) ++ (⟨#[58, 32]⟩ : ByteArray) = strOf (lnTxt (A, B)) := strOf_append _ [58, 32]
    have e4 : strOf (lnTxt (A, B)) ++ strOf T = strOf (lnTxt (A, B) ++ T) := strOf_append _ _
    have z1 : ¬ 9223372036854775807 < (strOf A).size + 1 := by rw [strOf_size]; omega
    have z2 : ¬ 9223372036854775807 < (strOf (A ++ [32])).size + (strOf B).size := by rw [strOf_size, strOf_size]; simp; omega
    have z3 : ¬ 9223372036854775807 < (strOf (A ++ [32] ++ B)).size + 2 := by rw [strOf_size]; simp; omega
    have z4 : ¬ 9223372036854775807 < (strOf (lnTxt (A, B))).size + (strOf T).size := by rw [strOf_size, strOf_size]; simp [lnTxt]; omega
    generalize strOf (lnTxt (A, B)) = s3 at *
    generalize strOf (A ++ [32] ++ B) = s2 at *
    generalize strOf (A ++ [32]) = s1 at *
    have hG0 := hG
    go_enter Tryd.func5, Tryd.ntmps5
    go_wp2_with fail
    refine (HWi.out w).mono ?_
    rintro e w0 ⟨rfl, rfl⟩
    go_wp2_with fail
    refine (HH1.out w).mono ?_
    rintro e w1 ⟨rfl, rfl⟩
    go_wp2_with fail
    refine (HH2.out w).mono ?_
    rintro e w1 ⟨rfl, rfl⟩
    clear HH1 HH2 HWi hG0
    go_wp2_with fail
    refine (chain_ok a 20 cap ys (c : Int) w hG hY (by omega) (by omega)).mono ?_
    rintro e w1 ⟨va, rfl, hA, hb⟩
    have hE := (Ext.refl w).step hb
    have hG1 := hG.below hb
    have hWr := Lib.hid (wrap_ok (.errno (c : Int)) (chn ys) (A, B) va w1 hG1 hA (by show (c : Int) ≠ 0; omega))
    have hna : va ≠ .nilIface := by rintro rfl; have := hA.nil.2; cases this
    have hAi := hA.iface hna
    obtain ⟨S, x, rfl⟩ := hAi
    have HP := Lib.hid (And.intro hE (And.intro hG1 hA))
    clear hb hE hG1 hA hna hG hY
    go_wp2_with fail
    refine hWr.out.mono ?_
    rintro e w2 ⟨⟨b, rfl, hB⟩, hb⟩
    have HS := Lib.hid (show St2 w w2 (.errno (c : Int)) (chn ys) (.iface S x) ((A, B) :: chn ys) (.iface 27 (.pointer (some ⟨b, 0, none⟩))) from ⟨HP.out.1.step hb, HP.out.2.1.below hb, HP.out.2.2.below hb, hB⟩)
    clear HP hb hB hWr
    go_wp2_with fail
    refine (where_any _ _ _ _ HS.out.2.1 HS.out.2.2.2).mono ?_
    rintro e w11 ⟨he, hb⟩
    have hS := HS.out.below hb
    clear hb HS
    have HS := Lib.hid hS
    clear hS
    replace he : e = .returned (.tuple #[.string (strOf A), .string (strOf B), .bool true]) := he
    subst he
    go_wp2_with fail
    refine (code_any _ _ _ _ HS.out.2.1 HS.out.2.2.2).mono ?_
    rintro e w12 ⟨he, hb⟩
    have hS := HS.out.below hb
    clear hb HS
    have HS := Lib.hid hS
    clear hS
    replace he : e = .returned (.int .i64 (c : Int)) := he
    subst he
    go_wp2_with fail
    refine (code_any _ _ _ _ HS.out.2.1 HS.out.2.2.1).mono ?_
    rintro e w13 ⟨he, hb⟩
    have hS := HS.out.below hb
    clear hb HS
    have HS := Lib.hid hS
    clear hS
    replace he : e = .returned (.int .i64 (c : Int)) := he
    subst he
    go_wp2_with fail
    refine (depth_any _ _ _ _ HS.out.2.1 HS.out.2.2.2 (by simp [chn_len]; omega)).mono ?_
    rintro e w14 ⟨he, hb⟩
    have hS := HS.out.below hb
    clear hb HS
    have HS := Lib.hid hS
    clear hS
    rw [List.length_cons, chn_len, hyl] at he
    subst he
    go_wp2_with fail
    refine (depth_any _ _ _ _ HS.out.2.1 HS.out.2.2.1 (by rw [chn_len]; omega)).mono ?_
    rintro e w15 ⟨he, hb⟩
    have hS := HS.out.below hb
    clear hb HS
    have HS := Lib.hid hS
    clear hS
    rw [chn_len, hyl] at he
    subst he
    go_wp2_with fail
    refine (fis_any _ _ _ (c : Int) _ HS.out.2.2.2).mono ?_
    rintro e w16 ⟨he, hw⟩
    replace he : e = .returned (.bool ((c : Int) == (c : Int))) := he
    rw [beq_self_eq_true] at he
    subst he
    subst hw
    go_wp2_with fail
    refine (fis_any _ _ _ ((c : Int) + 1) _ HS.out.2.2.2).mono ?_
    rintro e w17 ⟨he, hw⟩
    replace he : e = .returned (.bool ((c : Int) == (c : Int) + 1)) := he
    rw [hcc] at he
    subst he
    subst hw
    go_wp2_with fail
    refine (said_any _ _ _ _ HS.out.2.1 HS.out.2.2.2 ⟨by omega, by omega⟩ (fun h => by cases h) hTl).mono ?_
    rintro e w18 ⟨he, hb⟩
    have hS := HS.out.below hb
    clear hb HS
    have HS := Lib.hid hS
    clear hS
    rw [said_errno, hTe] at he
    subst he
    go_wp2_with fail
    refine (said_any _ _ _ _ HS.out.2.1 HS.out.2.2.1 ⟨by omega, by omega⟩ (fun _ => ⟨_, rfl⟩) (by rw [hT]; omega)).mono ?_
    rintro e w19 ⟨he, hb⟩
    have hS := HS.out.below hb
    clear hb HS
    have HS := Lib.hid hS
    clear hS
    rw [said_errno, hT] at he
    subst he
    go_wp2_with fail
    refine (Is37_any _ _ _ (c : Int) _ HS.out.2.2.2).mono ?_
    rintro e w20 ⟨he, hw⟩
    replace he : e = .returned (.bool ((c : Int) == (c : Int))) := he
    rw [beq_self_eq_true] at he
    subst he
    subst hw
    go_wp2_with fail
    refine (law1_known _ HS.out.2.1).mono ?_
    rintro e w21 ⟨rfl, hb⟩
    have hS := HS.out.below hb
    clear hb HS
    have HS := Lib.hid hS
    clear hS
    go_wp2_with fail
    go_ret
    exact ⟨rfl, HS.out.1.1⟩
theorem strOf_all (s : ByteArray) : ∃ xs, s = strOf xs := ⟨s.data.toList, by obtain ⟨d⟩ := s; rfl⟩
theorem FaultOuter_walk (v0 v1 v2 v3 : Value) (w : World) (hG : Gl w) (h0 : Arg Tryd.prog w 22 v0) (h1 : Arg Tryd.prog w 3 v1) (h2 : Arg Tryd.prog w 9 v2) (h3 : Arg Tryd.prog w 9 v3) :
    Calls Tryd.prog 5 #[v0, v1, v2, v3] w fun e w' => e = .returned (.bool true) ∧ Below w.heap.size w w' := by
  obtain ⟨a, len, cap, xs, rfl, hLk⟩ := h0.links
  obtain ⟨n, rfl, _⟩ := h1.int Tryd.underlying3
  obtain ⟨s2, rfl, _⟩ := h2.string Tryd.underlying9
  obtain ⟨s3, rfl, _⟩ := h3.string Tryd.underlying9
  obtain ⟨x2, rfl⟩ := strOf_all s2
  obtain ⟨x3, rfl⟩ := strOf_all s3
  exact fouter_any a len cap xs n x2 x3 w hG hLk
end Go.Proofs.YtmbkcohkmedpgaaDoor
