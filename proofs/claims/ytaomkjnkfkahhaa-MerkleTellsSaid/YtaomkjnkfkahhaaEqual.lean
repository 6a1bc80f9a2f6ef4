/- The contract of slices.Equal over bytes. -/
import Derived.Test.YtaomkjnkfkahhaaMem
namespace Go.Proofs.Ytaomkjnkfkahhaa
open Go.RowKit

theorem wrap_succ {j l : Nat} (h : j < l) (hl : l ≤ maxLen) : wrap64 ((j : Int) + 1) = (j : Int) + 1 := by
  have h2 : (l : Int) ≤ 9223372036854775807 := by
    have : ((maxLen : Nat) : Int) = 9223372036854775807 := by decide +kernel
    omega
  apply IntWalk.wrap64_in
  constructor <;> omega

theorem meas_succ {l j : Nat} (h : j < l) : l - (intOf (.int .i64 ((j : Int) + 1))).toNat < l - (intOf (.int .i64 (j : Int))).toNat := by
  have e : ((j : Int) + 1).toNat = j + 1 := by omega
  simp only [intOf]
  rw [e, Int.toNat_natCast]
  omega

set_option maxRecDepth 100000 in
theorem equal_any (a1 a2 : Option Addr) (l1 l2 c1 c2 : Nat) (xs ys : List UInt8) (w : World) (h1 : Bs w a1 l1 c1 xs) (h2 : Bs w a2 l2 c2 ys) :
    Calls Try.prog 39 #[.slice a1 l1 c1, .slice a2 l2 c2] w fun e w' => e = .returned (.bool (decide (xs = ys))) ∧ Below w.heap.size w w' := by
  have hl1 := h1.1
  have hl2 := h2.1
  have hc1 := h1.2.1
  have hc2 := h2.2.1
  have HM := Lib.hid (Nat.le_trans hc1 h1.2.2.1)
  obtain ⟨r, hr⟩ : ∃ r, r = decide (xs = ys) := ⟨_, rfl⟩
  rw [← hr]
  have HR := Lib.hid hr
  clear hr
  by_cases hl : l1 = l2
  · subst hl
    obtain ⟨b1, o1, H1⟩ : ∃ b o, Hid (0 < l1 → a1 = some ⟨b, o, none⟩ ∧ ∀ i (h : i < xs.length), w.cell? ⟨b, o + i, none⟩ = some (.int .u8 (xs[i].toNat : Int))) := by
      rcases h1.2.2.2 with h | ⟨b, off, z1, z2, z3⟩
      · exact ⟨0, 0, Lib.hid fun h' => by omega⟩
      · exact ⟨b, off, Lib.hid fun _ => ⟨z1, z3⟩⟩
    obtain ⟨b2, o2, H2⟩ : ∃ b o, Hid (0 < l1 → a2 = some ⟨b, o, none⟩ ∧ ∀ i (h : i < ys.length), w.cell? ⟨b, o + i, none⟩ = some (.int .u8 (ys[i].toNat : Int))) := by
      rcases h2.2.2.2 with h | ⟨b, off, z1, z2, z3⟩
      · exact ⟨0, 0, Lib.hid fun h' => by omega⟩
      · exact ⟨b, off, Lib.hid fun _ => ⟨z1, z3⟩⟩
    have hne : ((l1 : Int) != (l1 : Int)) = false := by simp
    clear h1 h2
    go_enter Try.func39, Try.ntmps39
    go_wp2_with fail
    go_loopw [13] (fun i wr => ∃ j : Nat, j ≤ l1 ∧ i = .int .i64 j ∧ (∀ b o, wr.cell? ⟨b, o, none⟩ = w.cell? ⟨b, o, none⟩) ∧ Below w.heap.size w wr ∧ xs.take j = ys.take j) (fun i _ => l1 - (intOf i).toNat)
    case atStart => exact ⟨0, by omega, rfl, fun _ _ => rfl, Below.refl _ _, by simp⟩
    case round =>
      obtain ⟨j, hj, rfl, hcw, hbl, htk⟩ := hrel
      have HC := Lib.hid hcw
      have HT := Lib.hid htk
      clear hcw htk
      by_cases hlt : j < l1
      · obtain ⟨z1, z2⟩ := H1.out (by omega)
        obtain ⟨z3, z4⟩ := H2.out (by omega)
        subst z1 z3
        have d1 := (HC.out b1 (o1 + j)).trans (z2 j (by omega))
        have d2 := (HC.out b2 (o2 + j)).trans (z4 j (by omega))
        have hw : wrap64 ((j : Int) + 1) = (j : Int) + 1 := wrap_succ hlt HM.out
        have hj0 : (0 : Int) ≤ (j : Int) := by omega
        have hj1 : (j : Int) < (l1 : Int) := by omega
        clear z2 z4
        by_cases hx : xs[j] = ys[j]
        · have hb : (((xs[j]'(by omega)).toNat : Int) != ((ys[j]'(by omega)).toNat : Int)) = false := by rw [hx]; simp
          have HX := Lib.hid hx
          clear hx
          go_wp2_with fail
          go_region
          go_wp2_with fail
          go_roundw
          case rel => exact ⟨j + 1, by omega, by go_num, fun b o => (HC.out b o), hbl.drew, by rw [List.take_succ_eq_append_getElem (by omega), List.take_succ_eq_append_getElem (by omega), HT.out, HX.out]⟩
          case measure => rw [hw]; exact meas_succ hlt
        · have hb : (((xs[j]'(by omega)).toNat : Int) != ((ys[j]'(by omega)).toNat : Int)) = true := by
            rw [bne_iff_ne]
            intro h
            exact hx (UInt8.toNat_inj.1 (by omega))
          have hrf : r = false := by
            rw [HR.out, decide_eq_false_iff_not]
            intro h; subst h; exact hx rfl
          subst hrf
          clear HR hx
          go_wp2_with fail
          go_region
          go_wp2_with fail
          go_ret
          exact ⟨rfl, hbl.drew⟩
      · obtain rfl : j = l1 := by omega
        have hrt : r = true := by
          rw [HR.out, decide_eq_true_iff]
          have := HT.out
          rwa [List.take_of_length_le (by omega), List.take_of_length_le (by omega)] at this
        subst hrt
        go_wp2_with fail
        go_ret
        exact ⟨rfl, hbl⟩
  · have hne : ((l1 : Int) != (l2 : Int)) = true := by rw [bne_iff_ne]; omega
    have hrf : r = false := by
      rw [HR.out, decide_eq_false_iff_not]
      intro h; subst h; omega
    subst hrf
    clear h1 h2 HR
    go_enter Try.func39, Try.ntmps39
    go_wp2_with fail
    go_ret
    exact ⟨rfl, Below.refl _ _⟩
end Go.Proofs.Ytaomkjnkfkahhaa
