/- (*Fault).Error: the text of Faults one within the other. -/
import Derived.Test.YtmbkcohkmedpgaaDoorFtAs2
import Derived.Test.YtmbkcohkmedpgaaDoorFtErr
import Derived.Test.YtmbkcohkmedpgaaDoorHeld
import Derived.Deep.DeepCutAuto
namespace Go.Proofs.YtmbkcohkmedpgaaDoor
open Go.RowKit

def AtB (w : World) (b : Nat) (o : Obj) : Prop := w.heap[b]? = some o
theorem AtB.below {w w' : World} {b : Nat} {o : Obj} (h : AtB w b o) (hb : Below w.heap.size w w') : AtB w' b o := (hb.block b (lt_of_heap h)).trans h
def leafTxt : Leaf → List UInt8
  | .none => [110, 111, 116, 104, 105, 110, 103]
  | .errno k => errText k.toNat
  | .other _ => [101, 114, 114, 111, 114]
/-- one wrapping's text -/
def lnTxt (x : List UInt8 × List UInt8) : List UInt8 := x.1 ++ [32] ++ x.2 ++ [58, 32]
def erTxt (L : Leaf) : List (List UInt8 × List UInt8) → List UInt8
  | [] => leafTxt L
  | x :: l => lnTxt x ++ erTxt L l
/-- a number that Errno.Error tells -/
def Leaf.ok : Leaf → Prop
  | .errno k => 0 ≤ k ∧ k ≤ 1000000
  | _ => True
theorem ft_c27_27 (v : Value) (w : World) : (Instr.typeAssert (.iface 27 v) 25 27 true).run Tryd.prog w = .ok (.tuple #[v, .bool true]) w := by kernel_rfl
theorem ft_c37_27 (v : Value) (w : World) : (Instr.typeAssert (.iface 37 v) 25 27 true).run Tryd.prog w = .ok (.tuple #[.pointer none, .bool false]) w := by kernel_rfl
theorem ft_c67_27 (v : Value) (w : World) : (Instr.typeAssert (.iface 67 v) 25 27 true).run Tryd.prog w = .ok (.tuple #[.pointer none, .bool false]) w := by kernel_rfl
theorem ft_c37_37 (v : Value) (w : World) : (Instr.typeAssert (.iface 37 v) 25 37 true).run Tryd.prog w = .ok (.tuple #[v, .bool true]) w := by kernel_rfl
theorem ft_c67_37 (v : Value) (w : World) : (Instr.typeAssert (.iface 67 v) 25 37 true).run Tryd.prog w = .ok (.tuple #[.int .i64 0, .bool false]) w := by kernel_rfl
theorem strOf_size (xs : List UInt8) : (strOf xs).size = xs.length := by show xs.toArray.size = _; simp
set_option maxHeartbeats 2000000 in
set_option maxRecDepth 100000 in
theorem ferr_any (L : Leaf) (x : List UInt8 × List UInt8) (l : List (List UInt8 × List UInt8)) (b : Nat) (w : World) (hv : Er w L (x :: l) (.iface 27 (.pointer (some ⟨b, 0, none⟩)))) (hk : L.ok) (hlen : (erTxt L (x :: l)).length ≤ 1000000000) :
    Calls Tryd.prog 22 #[.pointer (some ⟨b, 0, none⟩)] w fun e w' => e = .returned (.string (strOf (erTxt L (x :: l)))) ∧ Below w.heap.size w w' := by
  have HV := Lib.hid hv
  have hE0 := Ext.refl w
  clear hv
  generalize hT : erTxt L (x :: l) = T at *
  have HT := Lib.hid (And.intro hT hlen)
  have HK := Lib.hid hk
  clear hT hlen hk
  have k1 := ft_c27_27
  have k2 := ft_c37_27
  have k3 := ft_c67_27
  have k4 := ft_c37_37
  have k5 := ft_c67_37
  go_enter Tryd.func22, Tryd.ntmps22
  go_wp2_with fail
  go_loopg [0, 3] l.length (fun n u s wx => ∃ x' l' acc b', l'.length = n ∧ u = .pointer (some ⟨b', 0, none⟩) ∧ Er wx L (x' :: l') (.iface 27 (.pointer (some ⟨b', 0, none⟩))) ∧ s = .string (strOf acc) ∧ acc ++ erTxt L (x' :: l') = T ∧ Ext w.heap.size w wx)
  case atStart => exact ⟨x, l, [], b, rfl, rfl, HV.out, rfl, HT.out.1, hE0⟩
  case round =>
    obtain ⟨x', l', acc, b', hl', rfl, hEr, rfl, hacc, hE⟩ := hrel
    obtain ⟨b2, inner, hbe, hb, hi⟩ := hEr
    clear hE0
    have hbe2 : b' = b2 := by injection hbe with _ hbe; injection hbe with hbe; injection hbe with hbe; injection hbe
    clear hbe
    subst hbe2
    obtain ⟨A, B⟩ := x'
    have hlT := HT.out.2
    rw [← hacc] at hlT
    simp only [erTxt, lnTxt, List.length_append, List.length_cons, List.length_nil] at hlT
    have e1 : strOf A ++ (⟨#[32]⟩ : ByteArray) = strOf (A ++ [32]) := strOf_append A [32]
    have e2 : strOf (A ++ [32]) ++ strOf B = strOf (A ++ [32] ++ B) := strOf_append _ _
    have e3 : strOf (A ++ [32] ++ B) ++ (⟨#[58, 32]⟩ : ByteArray) = strOf (A ++ [32] ++ B ++ [58, 32]) := strOf_append _ [58, 32]
    have e4 : strOf acc ++ strOf (A ++ [32] ++ B ++ [58, 32]) = strOf (acc ++ lnTxt (A, B)) := strOf_append _ _
    have z1 : ¬ 9223372036854775807 < (strOf A).size + 1 := by rw [strOf_size]; omega
    have z2 : ¬ 9223372036854775807 < (strOf (A ++ [32])).size + (strOf B).size := by rw [strOf_size, strOf_size]; simp; omega
    have z3 : ¬ 9223372036854775807 < (strOf (A ++ [32] ++ B)).size + 2 := by rw [strOf_size]; simp; omega
    have z4 : ¬ 9223372036854775807 < (strOf acc).size + (strOf (A ++ [32] ++ B ++ [58, 32])).size := by rw [strOf_size, strOf_size]; simp; omega
    have hac2 : (acc ++ lnTxt (A, B)) ++ erTxt L l' = T := by rw [← hacc]; simp [erTxt]
    have hac3 : (acc ++ lnTxt (A, B)).length + (erTxt L l').length ≤ 1000000000 := by rw [← List.length_append, hac2]; exact HT.out.2
    have HAC := Lib.hid (And.intro hac2 hac3)
    have HL := Lib.hid hl'
    have hBk : AtB wr b' (.cells #[.string (strOf A), .string (strOf B), inner] 31 (0, 0)) := hb
    have hEr2 := hi
    clear hlT hacc hac2 hac3 hl' hi HV hb
    generalize acc ++ lnTxt (A, B) = acc2 at *
    generalize strOf A = sA at *
    generalize strOf B = sB at *
    generalize strOf (A ++ [32]) = s1 at *
    generalize strOf (A ++ [32] ++ B) = s2 at *
    generalize strOf (A ++ [32] ++ B ++ [58, 32]) = s3 at *
    go_upto_region 3 with fail
    obtain ⟨wd, hwd⟩ : ∃ wd, wd = wr.drew := ⟨_, rfl⟩
    have hb : Below wr.heap.size wr wd := by rw [hwd]; exact (Below.refl _ _).drew
    have hBk := hBk.below hb
    have hEr2 := hEr2.below hb
    have hE := hE.step hb
    clear hb
    refine held_start (by kernel_rfl) (fun hHeld => ?_)
    rw [← hwd] at hHeld ⊢
    clear hwd
    refine held_take (i := 0) (v := ?_) 10 rfl (by kernel_rfl) (by kernel_rfl) (by kernel_rfl) (fun _ _ _ h => h) rfl (by assumption) (Or.inl ⟨by rfl, ?_⟩) ?_
    rotate_left
    · intro w hSw; go_simp; (try with_reducible rfl)
    simp only [List.set_cons_zero, List.set_cons_succ]
    refine held_take (i := 1) (v := ?_) 11 rfl (by kernel_rfl) (by kernel_rfl) (by kernel_rfl) (fun _ _ _ h => h) rfl (by assumption) (Or.inl ⟨by rfl, ?_⟩) ?_
    rotate_left
    · intro w hSw; go_simp; (try with_reducible rfl)
    simp only [List.set_cons_zero, List.set_cons_succ]
    refine held_take (i := 2) (v := ?_) 12 rfl (by kernel_rfl) (by kernel_rfl) (by kernel_rfl) (fun _ _ _ h => h) rfl (by assumption) (Or.inl ⟨by rfl, ?_⟩) ?_
    rotate_left
    · intro w hSw; go_simp; (try with_reducible rfl)
    simp only [List.set_cons_zero, List.set_cons_succ]
    refine held_take (i := 3) (v := ?_) 13 rfl (by kernel_rfl) (by kernel_rfl) (by kernel_rfl) (fun _ _ _ h => h) rfl (by assumption) (Or.inl ⟨by rfl, ?_⟩) ?_
    rotate_left
    · intro w hSw; go_simp; (try with_reducible rfl)
    simp only [List.set_cons_zero, List.set_cons_succ]
    refine held_take (i := 4) (v := ?_) 14 rfl (by kernel_rfl) (by kernel_rfl) (by kernel_rfl) (fun _ _ _ h => h) rfl (by assumption) (Or.inl ⟨by rfl, ?_⟩) ?_
    rotate_left
    · intro w hSw; have c0 := cells_at (hBk.below hSw) 0; have c1 := cells_at (hBk.below hSw) 1; have c2 := cells_at (hBk.below hSw) 2; simp only [List.getElem?_toArray, List.getElem?_cons_zero, List.getElem?_cons_succ] at c0 c1 c2; go_simp; (try with_reducible rfl)
    simp only [List.set_cons_zero, List.set_cons_succ]
    refine held_take (i := 5) (v := ?_) 15 rfl (by kernel_rfl) (by kernel_rfl) (by kernel_rfl) (fun _ _ _ h => h) rfl (by assumption) (Or.inl ⟨by rfl, ?_⟩) ?_
    rotate_left
    · intro w hSw; go_simp; (try with_reducible rfl)
    simp only [List.set_cons_zero, List.set_cons_succ]
    refine held_take (i := 6) (v := ?_) 16 rfl (by kernel_rfl) (by kernel_rfl) (by kernel_rfl) (fun _ _ _ h => h) rfl (by assumption) (Or.inl ⟨by rfl, ?_⟩) ?_
    rotate_left
    · intro w hSw; go_simp; (try with_reducible rfl)
    simp only [List.set_cons_zero, List.set_cons_succ]
    refine held_take (i := 7) (v := ?_) 17 rfl (by kernel_rfl) (by kernel_rfl) (by kernel_rfl) (fun _ _ _ h => h) rfl (by assumption) (Or.inl ⟨by rfl, ?_⟩) ?_
    rotate_left
    · intro w hSw; go_simp; (try with_reducible rfl)
    simp only [List.set_cons_zero, List.set_cons_succ]
    refine held_take (i := 8) (v := ?_) 18 rfl (by kernel_rfl) (by kernel_rfl) (by kernel_rfl) (fun _ _ _ h => h) rfl (by assumption) (Or.inl ⟨by rfl, ?_⟩) ?_
    rotate_left
    · intro w hSw; go_simp; (try with_reducible rfl)
    simp only [List.set_cons_zero, List.set_cons_succ]
    refine held_take (i := 9) (v := ?_) 19 rfl (by kernel_rfl) (by kernel_rfl) (by kernel_rfl) (fun _ _ _ h => h) rfl (by assumption) (Or.inl ⟨by rfl, ?_⟩) ?_
    rotate_left
    · intro w hSw; have c0 := cells_at (hBk.below hSw) 0; have c1 := cells_at (hBk.below hSw) 1; have c2 := cells_at (hBk.below hSw) 2; simp only [List.getElem?_toArray, List.getElem?_cons_zero, List.getElem?_cons_succ] at c0 c1 c2; go_simp; (try with_reducible rfl)
    simp only [List.set_cons_zero, List.set_cons_succ]
    refine held_take (i := 10) (v := ?_) 20 rfl (by kernel_rfl) (by kernel_rfl) (by kernel_rfl) (fun _ _ _ h => h) rfl (by assumption) (Or.inl ⟨by rfl, ?_⟩) ?_
    rotate_left
    · intro w hSw; go_simp; (try with_reducible rfl)
    simp only [List.set_cons_zero, List.set_cons_succ]
    refine held_take (i := 11) (v := ?_) 21 rfl (by kernel_rfl) (by kernel_rfl) (by kernel_rfl) (fun _ _ _ h => h) rfl (by assumption) (Or.inl ⟨by rfl, ?_⟩) ?_
    rotate_left
    · intro w hSw; go_simp; (try with_reducible rfl)
    simp only [List.set_cons_zero, List.set_cons_succ]
    refine held_take (i := 12) (v := ?_) 22 rfl (by kernel_rfl) (by kernel_rfl) (by kernel_rfl) (fun _ _ _ h => h) rfl (by assumption) (Or.inl ⟨by rfl, ?_⟩) ?_
    rotate_left
    · intro w hSw; go_simp; (try with_reducible rfl)
    simp only [List.set_cons_zero, List.set_cons_succ]
    refine held_take (i := 13) (v := ?_) 3 rfl (by kernel_rfl) (by kernel_rfl) (by kernel_rfl) (fun _ _ _ h => h) rfl (by assumption) (Or.inl ⟨by rfl, ?_⟩) ?_
    rotate_left
    · intro w hSw; go_simp; (try with_reducible rfl)
    simp only [List.set_cons_zero, List.set_cons_succ]
    refine wpAnyH_done (by kernel_rfl) ?_ _
    have c2 := cells_at hBk 2
    simp only [List.getElem?_toArray, List.getElem?_cons_zero, List.getElem?_cons_succ] at c2
    clear e1 e2 e3 e4 z1 z2 z3 z4
    cases l' with
    | nil =>
      cases L with
      | none =>
        replace hEr2 : inner = .nilIface := hEr2
        subst hEr2
        have e5 : strOf acc2 ++ (⟨#[110, 111, 116, 104, 105, 110, 103]⟩ : ByteArray) = strOf (acc2 ++ [110, 111, 116, 104, 105, 110, 103]) := strOf_append _ [110, 111, 116, 104, 105, 110, 103]
        have z5 : ¬ 9223372036854775807 < (strOf acc2).size + 7 := by have := HAC.out.2; rw [strOf_size]; omega
        have HF := Lib.hid (show acc2 ++ [110, 111, 116, 104, 105, 110, 103] = T from HAC.out.1)
        clear hHeld hBk
        generalize strOf acc2 = sa at *
        go_wp2_with fail
        go_ret
        rw [HF.out]
        exact ⟨rfl, hE.1⟩
      | other b3 =>
        replace hEr2 : inner = .iface 67 (.pointer (some ⟨b3, 0, none⟩)) := hEr2
        subst hEr2
        have e5 : strOf acc2 ++ (⟨#[101, 114, 114, 111, 114]⟩ : ByteArray) = strOf (acc2 ++ [101, 114, 114, 111, 114]) := strOf_append _ [101, 114, 114, 111, 114]
        have z5 : ¬ 9223372036854775807 < (strOf acc2).size + 5 := by have := HAC.out.2; rw [strOf_size]; omega
        have HF := Lib.hid (show acc2 ++ [101, 114, 114, 111, 114] = T from HAC.out.1)
        clear hHeld hBk
        generalize strOf acc2 = sa at *
        go_wp2_with fail
        go_ret
        rw [HF.out]
        exact ⟨rfl, hE.1⟩
      | errno k =>
        replace hEr2 : inner = .iface 37 (.int .i64 k) := hEr2
        subst hEr2
        obtain ⟨n, rfl⟩ : ∃ n : Nat, k = (n : Int) := ⟨k.toNat, by have := HK.out.1; omega⟩
        have hF : acc2 ++ errText n = T := by have h : acc2 ++ errText (n : Int).toNat = T := HAC.out.1; rwa [Int.toNat_natCast] at h
        have hn : n ≤ 1000000 := by have h : (n : Int) ≤ 1000000 := HK.out.2; omega
        have HN := Lib.hid hn
        have e5 : strOf acc2 ++ strOf (errText n) = strOf (acc2 ++ errText n) := strOf_append _ _
        have z5 : ¬ 9223372036854775807 < (strOf acc2).size + (strOf (errText n)).size := by
          have h := HT.out.2
          rw [← hF, List.length_append] at h
          rw [strOf_size, strOf_size]; omega
        rw [hF] at e5
        have HF := Lib.hid e5
        have HZ := Lib.hid z5
        clear hHeld hBk hF hn e5 z5
        go_wp2_with fail
        refine (errno_any n HN.out wd).mono ?_
        rintro e w2 ⟨rfl, hb2⟩
        have hE2 := hE.step hb2
        have e5 := HF.out
        have z5 := HZ.out
        clear HF HZ
        generalize strOf acc2 = sa at *
        generalize strOf (errText n) = sn at *
        go_wp2_with fail
        go_ret
        exact ⟨rfl, hE2.1⟩
    | cons y l2 =>
      have hEr3 := hEr2
      obtain ⟨b3, inner3, rfl, _, _⟩ := hEr3
      have HE := Lib.hid hEr2
      clear hEr2 hHeld hBk
      go_wp2_with fail
      go_roundg l2.length
      case measure => have := HL.out; simp at this; omega
      case rel => exact ⟨y, l2, acc2, b3, rfl, rfl, HE.out, rfl, HAC.out.1, hE⟩
end Go.Proofs.YtmbkcohkmedpgaaDoor
