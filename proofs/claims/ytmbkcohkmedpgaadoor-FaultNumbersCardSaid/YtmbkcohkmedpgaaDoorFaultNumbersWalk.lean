/- The walk of FaultNumbers. -/
import Derived.Test.YtmbkcohkmedpgaaDoorFtCh
namespace Go.Proofs.YtmbkcohkmedpgaaDoor
open Go.RowKit Go.Extern.Stop Go.Stop Go.Extern

theorem ft_info67 : (Tryd.prog.info? 67).map (·.comparable) = some true := by kernel_rfl
theorem ft_info69 : (Tryd.prog.info? 69).map (·.size) = some 1 := by kernel_rfl
theorem ft_eq67 (a : Addr) (w : World) : (binOp .eql 25 (.iface 67 (.pointer (some a))) (.iface 67 (.pointer (some a)))).run Tryd.prog w = .ok (.bool true) w := by
  obtain ⟨i, hi, hcmp⟩ := Option.map_eq_some_iff.1 ft_info67
  obtain ⟨j, hj, hjs⟩ := Option.map_eq_some_iff.1 ft_info69
  exact run_eql_iface_ptr_same (P := Tryd.prog) w a Tryd.underlying25 Tryd.underlying67 hi hcmp hj
set_option maxHeartbeats 1000000 in
set_option maxRecDepth 100000 in
theorem is67_any (o : Nat) (l : List (List UInt8 × List UInt8)) (v : Value) (w : World) (hv : Er w (.other o) l v) :
    Calls Tryd.prog 29 #[v, .iface 67 (.pointer (some ⟨o, 0, none⟩)), .bool true] w fun ev w' => ev = .returned (.bool true) ∧ w' = w := by
  have mU := ft_mUnw
  have HV := Lib.hid hv
  clear hv
  go_enter Tryd.func29, Tryd.ntmps29
  go_wp2_with fail
  go_loopg [0] l.length (fun n u wx => ∃ l', l'.length = n ∧ Er w (.other o) l' u ∧ wx = w)
  case atStart => exact ⟨l, rfl, HV.out, rfl⟩
  case round =>
    obtain ⟨l', hl', hE, rfl⟩ := hrel
    cases l' with
    | nil =>
      have hu2 : u0 = .iface 67 (.pointer (some ⟨o, 0, none⟩)) := hE
      subst hu2
      have n4 := ft_eq67 ⟨o, 0, none⟩
      clear hE hl' HV
      go_wp2
      go_ret
      exact ⟨rfl, rfl⟩
    | cons x l'' =>
      obtain ⟨b, inner, rfl, hb, hi⟩ := hE
      have n1 := ft_is27
      have n2 := ft_unw27
      have n4 := ft_ne 27 67 (.pointer (some ⟨b, 0, none⟩)) (.pointer (some ⟨o, 0, none⟩)) (by decide)
      have HI := Lib.hid hi
      have HL := Lib.hid hl'
      have HUn := Lib.hid (unwrap_any b x.1 x.2 inner wr hb)
      clear hi hl' hb HV
      have hin : inner ≠ .nilIface := by
        rintro rfl
        have h := HI.out.nil.2
        cases h
      obtain ⟨T, vv, rfl⟩ := HI.out.iface hin
      clear hin
      go_wp2_with fail
      refine HUn.out.mono ?_
      rintro e w2 ⟨rfl, rfl⟩
      go_wp2_with fail
      go_roundg l''.length
      case measure => have := HL.out; simp at this; omega
      case rel => exact ⟨l'', rfl, HI.out, rfl⟩
set_option maxRecDepth 100000 in
theorem Is67_any (o : Nat) (l : List (List UInt8 × List UInt8)) (v : Value) (w : World) (hv : Er w (.other o) l v) :
    Calls Tryd.prog 19 #[v, .iface 67 (.pointer (some ⟨o, 0, none⟩))] w fun ev w' => ev = .returned (.bool true) ∧ w' = w := by
  have hn : v ≠ .nilIface := by
    rintro rfl
    have h := hv.nil.2
    cases h
  have HC := Lib.hid (is67_any o l v w hv)
  obtain ⟨T, vv, rfl⟩ := hv.iface hn
  have h28 := @run_callFunc_extern Tryd.prog 28 _ ReflectliteType.typeOf Tryd.func28 (by kernel_rfl) (by kernel_rfl) (by kernel_rfl) (by kernel_rfl)
  have h55 := @run_callFunc_extern Tryd.prog 55 _ (Extern.ReflectliteType.method fun t => do Go.Extern.Rtype.noPackHeld "Comparable" t; pure (.bool (← typeInfo t).comparable)) Tryd.func55 (by kernel_rfl) (by kernel_rfl) (by kernel_rfl) (by kernel_rfl)
  have t1 := ft_typeOf67
  have mC := ft_mComp
  have c1 := ft_comp67
  clear hv hn
  go_enter Tryd.func19, Tryd.ntmps19
  go_wp2_with fail
  refine HC.out.mono ?_
  rintro e w2 ⟨rfl, rfl⟩
  go_wp2
  go_ret
  exact ⟨rfl, rfl⟩
theorem new_any (s : ByteArray) (w : World) : Calls Tryd.prog 21 #[.string s] w fun e w' => e = .returned (.iface 67 (.pointer (some ⟨w.heap.size, 0, none⟩))) ∧ Below w.heap.size w w' := by
  have hE := (Ext.refl w).alloc (.cells #[.string s] 69)
  go_enter Tryd.func21, Tryd.ntmps21
  go_wp2
  go_ret
  exact ⟨rfl, hE.1⟩
/-- what the closed sentence's errors are, all the way -/
def St4 (o : Nat) (va vb : Value) (f : Nat) (w wx : World) : Prop :=
  Ext w.heap.size w wx ∧ Gl wx ∧ Er wx (.other o) [([111, 112], [112, 97, 116, 104])] va ∧ Er wx (.other o) [([109, 111, 114, 101], [115, 116, 105, 108, 108]), ([111, 112], [112, 97, 116, 104])] vb ∧ Er wx .none [([120], [121])] (.iface 27 (.pointer (some ⟨f, 0, none⟩)))
theorem St4.below {o : Nat} {va vb : Value} {f : Nat} {w wx wy : World} (h : St4 o va vb f w wx) (hb : Below wx.heap.size wx wy) : St4 o va vb f w wy :=
  ⟨h.1.step hb, h.2.1.below hb, h.2.2.1.below hb, h.2.2.2.1.below hb, h.2.2.2.2.below hb⟩
set_option maxHeartbeats 8000000 in
set_option maxRecDepth 100000 in
theorem FaultNumbers_walk (w : World) (hG : Gl w) :
    Calls Tryd.prog 6 #[] w fun e w' => e = .returned (.bool true) ∧ Below w.heap.size w w' := by
  have HG := Lib.hid hG
  have hE := Ext.refl w
  have q1 : strOf [109, 111, 114, 101] = ⟨#[109, 111, 114, 101]⟩ := rfl
  have q2 : strOf [115, 116, 105, 108, 108] = ⟨#[115, 116, 105, 108, 108]⟩ := rfl
  have q3 : strOf [111, 112, 32, 112, 97, 116, 104, 58, 32, 101, 114, 114, 111, 114] = ⟨#[111, 112, 32, 112, 97, 116, 104, 58, 32, 101, 114, 114, 111, 114]⟩ := rfl
  have q4 : strOf [109, 111, 114, 101, 32, 115, 116, 105, 108, 108, 58, 32, 111, 112, 32, 112, 97, 116, 104, 58, 32, 101, 114, 114, 111, 114] = ⟨#[109, 111, 114, 101, 32, 115, 116, 105, 108, 108, 58, 32, 111, 112, 32, 112, 97, 116, 104, 58, 32, 101, 114, 114, 111, 114]⟩ := rfl
  have q5 : strOf [120, 32, 121, 58, 32, 110, 111, 116, 104, 105, 110, 103] = ⟨#[120, 32, 121, 58, 32, 110, 111, 116, 104, 105, 110, 103]⟩ := rfl
  clear hG
  go_enter Tryd.func6, Tryd.ntmps6
  go_wp2_with fail
  refine (new_any _ w).mono ?_
  rintro e w1 ⟨rfl, hb1⟩
  have hE1 := hE.step hb1
  have hG1 := HG.out.below hb1
  obtain ⟨o, ho⟩ : ∃ o, o = w.heap.size := ⟨_, rfl⟩
  rw [← ho]
  clear hE hb1 HG ho
  go_wp2_with fail
  refine (wrap_ok (.other o) [] ([111, 112], [112, 97, 116, 104]) (.iface 67 (.pointer (some ⟨o, 0, none⟩))) w1 hG1 rfl (show (99 : Int) ≠ 0 by decide)).mono ?_
  rintro e w2 ⟨⟨ba, rfl, hA⟩, hb2⟩
  have hE2 := hE1.step hb2
  have hG2 := hG1.below hb2
  clear hE1 hG1 hb2
  have HA := Lib.hid (And.intro hA (And.intro hE2 hG2))
  clear hA hE2 hG2
  go_wp2_with fail
  refine (wrap_ok (.other o) [([111, 112], [112, 97, 116, 104])] ([109, 111, 114, 101], [115, 116, 105, 108, 108]) (.iface 27 (.pointer (some ⟨ba, 0, none⟩))) w2 HA.out.2.2 HA.out.1 (show (99 : Int) ≠ 0 by decide)).mono ?_
  rintro e w3 ⟨⟨bb, rfl, hB⟩, hb3⟩
  have HB4 := Lib.hid (And.intro (HA.out.1.below hb3) (And.intro hB (And.intro (HA.out.2.1.step hb3) (HA.out.2.2.below hb3))))
  clear hb3 hB HA
  go_wp2_with fail
  refine (where_any _ _ _ w3 HB4.out.2.2.2 HB4.out.2.1).mono ?_
  rintro e w4 ⟨he, hb4⟩
  replace he : e = .returned (.tuple #[.string (strOf [109, 111, 114, 101]), .string (strOf [115, 116, 105, 108, 108]), .bool true]) := he
  subst he
  have HB5 := Lib.hid (And.intro (HB4.out.1.below hb4) (And.intro (HB4.out.2.1.below hb4) (And.intro (HB4.out.2.2.1.step hb4) (HB4.out.2.2.2.below hb4))))
  clear hb4 HB4
  go_wp2_with fail
  refine (where_any (.other o) [] (.iface 67 (.pointer (some ⟨o, 0, none⟩))) w4 HB5.out.2.2.2 rfl).mono ?_
  rintro e w5 ⟨he, hb5⟩
  replace he : e = .returned (.tuple #[.string (strOf []), .string (strOf []), .bool false]) := he
  subst he
  have hb6 := (Below.refl w5.heap.size w5).alloc (Nat.le_refl _) (.cells #[.string (strOf [120]), .string (strOf [121]), .nilIface] 31)
  have hF : (w5.alloc (.cells #[.string (strOf [120]), .string (strOf [121]), .nilIface] 31)).heap[w5.heap.size]? = some (.cells #[.string (strOf [120]), .string (strOf [121]), .nilIface] 31 (0, 0)) := heap_alloc_new w5 _
  have HS := Lib.hid (show St4 o (.iface 27 (.pointer (some ⟨ba, 0, none⟩))) (.iface 27 (.pointer (some ⟨bb, 0, none⟩))) w5.heap.size w (w5.alloc (.cells #[.string (strOf [120]), .string (strOf [121]), .nilIface] 31)) from
    ⟨(HB5.out.2.2.1.step hb5).step hb6, (HB5.out.2.2.2.below hb5).below hb6, (HB5.out.1.below hb5).below hb6, (HB5.out.2.1.below hb5).below hb6, ⟨_, _, rfl, hF, rfl⟩⟩)
  clear hb5 hb6 hF HB5
  go_upto_region 9 with fail
  obtain ⟨FF, hFF⟩ : ∃ FF, FF = w5.heap.size := ⟨_, rfl⟩
  obtain ⟨w6, hw6⟩ : ∃ W, W = w5.alloc (.cells #[.string (strOf [120]), .string (strOf [121]), .nilIface] 31) := ⟨_, rfl⟩
  rw [← hw6, ← hFF] at HS
  have HW := Lib.hid (And.intro hFF hw6)
  clear hFF hw6
  rw [← HW.out.1]
  have hgo : (w5.alloc (.cells #[.string ⟨#[120]⟩, .string ⟨#[121]⟩, .nilIface] 31)) = w6 := HW.out.2.symm
  rw [hgo]
  clear hgo HW
  go_wp2_with fail
  refine (wrap_zero .none [] ([97], [98]) .nilIface _ HS.out.2.1 rfl rfl).mono ?_
  rintro e w11 ⟨rfl, hb⟩
  have hS := HS.out.below hb
  clear hb HS
  have HS := Lib.hid hS
  clear hS
  go_wp2_with fail
  refine (wrap_zero (.errno 0) [] ([97], [98]) (.iface 37 (.int .i64 0)) _ HS.out.2.1 rfl rfl).mono ?_
  rintro e w12 ⟨rfl, hb⟩
  have hS := HS.out.below hb
  clear hb HS
  have HS := Lib.hid hS
  clear hS
  go_wp2_with fail
  refine (code_any .none [] .nilIface _ HS.out.2.1 rfl).mono ?_
  rintro e w13 ⟨he, hb⟩
  have hS := HS.out.below hb
  clear hb HS
  have HS := Lib.hid hS
  clear hS
  replace he : e = .returned (.int .i64 0) := he
  subst he
  go_wp2_with fail
  refine (code_any _ _ _ _ HS.out.2.1 HS.out.2.2.1).mono ?_
  rintro e w14 ⟨he, hb⟩
  have hS := HS.out.below hb
  clear hb HS
  have HS := Lib.hid hS
  clear hS
  replace he : e = .returned (.int .i64 99) := he
  subst he
  go_wp2_with fail
  refine (code_any (.other o) [] (.iface 67 (.pointer (some ⟨o, 0, none⟩))) _ HS.out.2.1 rfl).mono ?_
  rintro e w15 ⟨he, hb⟩
  have hS := HS.out.below hb
  clear hb HS
  have HS := Lib.hid hS
  clear hS
  replace he : e = .returned (.int .i64 99) := he
  subst he
  go_wp2_with fail
  refine (said_any _ _ _ _ HS.out.2.1 HS.out.2.2.1 trivial (fun h => by cases h) (by simp [erTxt, lnTxt, leafTxt])).mono ?_
  rintro e w16 ⟨he, hb⟩
  have hS := HS.out.below hb
  clear hb HS
  have HS := Lib.hid hS
  clear hS
  replace he : e = .returned (.string (strOf [111, 112, 32, 112, 97, 116, 104, 58, 32, 101, 114, 114, 111, 114])) := he
  subst he
  go_wp2_with fail
  refine (said_any _ _ _ _ HS.out.2.1 HS.out.2.2.2.1 trivial (fun h => by cases h) (by simp [erTxt, lnTxt, leafTxt])).mono ?_
  rintro e w17 ⟨he, hb⟩
  have hS := HS.out.below hb
  clear hb HS
  have HS := Lib.hid hS
  clear hS
  replace he : e = .returned (.string (strOf [109, 111, 114, 101, 32, 115, 116, 105, 108, 108, 58, 32, 111, 112, 32, 112, 97, 116, 104, 58, 32, 101, 114, 114, 111, 114])) := he
  subst he
  go_wp2_with fail
  refine (depth_any _ _ _ _ HS.out.2.1 HS.out.2.2.2.1 (by decide)).mono ?_
  rintro e w18 ⟨he, hb⟩
  have hS := HS.out.below hb
  clear hb HS
  have HS := Lib.hid hS
  clear hS
  replace he : e = .returned (.int .i64 2) := he
  subst he
  go_wp2_with fail
  refine (depth_any .none [] .nilIface _ HS.out.2.1 rfl (by decide)).mono ?_
  rintro e w19 ⟨he, hb⟩
  have hS := HS.out.below hb
  clear hb HS
  have HS := Lib.hid hS
  clear hS
  replace he : e = .returned (.int .i64 0) := he
  subst he
  go_wp2_with fail
  refine (depth_any (.other o) [] (.iface 67 (.pointer (some ⟨o, 0, none⟩))) _ HS.out.2.1 rfl (by decide)).mono ?_
  rintro e w20 ⟨he, hb⟩
  have hS := HS.out.below hb
  clear hb HS
  have HS := Lib.hid hS
  clear hS
  replace he : e = .returned (.int .i64 0) := he
  subst he
  go_wp2_with fail
  refine (Is67_any o _ _ _ HS.out.2.2.2.1).mono ?_
  rintro e w21 ⟨rfl, hw⟩
  subst hw
  go_wp2_with fail
  refine (ferr_any _ _ _ _ _ HS.out.2.2.2.2 trivial (by decide)).mono ?_
  rintro e w22 ⟨he, hb⟩
  have hS := HS.out.below hb
  clear hb HS
  have HS := Lib.hid hS
  clear hS
  replace he : e = .returned (.string (strOf [120, 32, 121, 58, 32, 110, 111, 116, 104, 105, 110, 103])) := he
  subst he
  go_wp2_with fail
  obtain ⟨f2, in2, hf2, hf3, hf4⟩ := HS.out.2.2.2.2
  have hff : FF = f2 := by injection hf2 with _ hf2; injection hf2 with hf2; injection hf2 with hf2; injection hf2
  subst hff
  replace hf4 : in2 = .nilIface := hf4
  subst hf4
  have HU := Lib.hid (unwrap_any _ _ _ _ _ hf3)
  clear hf2 hf3
  refine (HU.out).mono ?_
  rintro e w23 ⟨rfl, hw⟩
  subst hw
  clear HU
  go_wp2_with fail
  refine (code_any _ _ _ _ HS.out.2.1 HS.out.2.2.2.2).mono ?_
  rintro e w24 ⟨he, hb⟩
  have hS := HS.out.below hb
  clear hb HS
  have HS := Lib.hid hS
  clear hS
  replace he : e = .returned (.int .i64 99) := he
  subst he
  go_wp2_with fail
  refine (fis_any .none [] .nilIface 0 _ rfl).mono ?_
  rintro e w25 ⟨he, hw⟩
  subst hw
  replace he : e = .returned (.bool false) := he
  subst he
  go_wp2_with fail
  refine (Is37_any .none [] .nilIface 0 _ rfl).mono ?_
  rintro e w26 ⟨he, hw⟩
  subst hw
  replace he : e = .returned (.bool false) := he
  subst he
  go_wp2_with fail
  refine (law1_known _ HS.out.2.1).mono ?_
  rintro e w27 ⟨rfl, hb⟩
  have hS := HS.out.below hb
  clear hb HS
  have HS := Lib.hid hS
  clear hS
  go_wp2_with fail
  go_ret
  exact ⟨rfl, HS.out.1.1⟩
end Go.Proofs.YtmbkcohkmedpgaaDoor
