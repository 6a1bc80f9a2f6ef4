/- bytes.Trim at a cutset of the one byte 0: is anything left? -/
import Derived.Test.YtdglhonogopciaaDoorOwn
import Derived.Deep.DeepCutAuto
import Derived.Test.YtdglhonogopciaaDoorHeld
namespace Go.Proofs.YtdglhonogopciaaDoor
open Go.RowKit

def nil0 (l : List UInt8) : Bool := l.all (· == 0)
theorem nil0_nil : nil0 [] = true := rfl
theorem nil0_cons (x : UInt8) (l : List UInt8) : nil0 (x :: l) = ((x == 0) && nil0 l) := rfl
theorem nil0_drop {xs : List UInt8} {j : Nat} (hj : j < xs.length) (hx : xs[j] = 0) (h : nil0 (xs.drop (j + 1)) = true) : nil0 (xs.drop j) = true := by
  rw [List.drop_eq_getElem_cons hj, nil0_cons, hx, h]; rfl
theorem nil0_not {xs : List UInt8} {j : Nat} (hj : j < xs.length) (hx : xs[j] ≠ 0) : nil0 xs = false := by
  unfold nil0
  rw [List.all_eq_false]
  exact ⟨xs[j], List.getElem_mem _, by simp [hx]⟩
theorem nil0_getD {xs : List UInt8} {j : Nat} (h : xs.getD j 0 ≠ 0) : nil0 xs = false := by
  by_cases hj : j < xs.length
  · exact nil0_not hj (by rwa [List.getD_eq_getElem?_getD, List.getElem?_eq_getElem hj] at h)
  · exact absurd (by rw [List.getD_eq_getElem?_getD, List.getElem?_eq_none (by omega)]; rfl) h
def slLen : Value → Nat
  | .slice _ k _ => k
  | _ => 0
theorem slLen_slice (a : Option Addr) (k c : Nat) : slLen (.slice a k c) = k := rfl
theorem byte_ne {x : UInt8} (h : x ≠ 0) : ((x.toNat : Int) == 0) = false := by
  rw [beq_eq_false_iff_ne]; intro e; exact h (UInt8.toNat_inj.1 (by have : x.toNat = 0 := by omega
                                                                    rw [this]; rfl))
set_option maxRecDepth 100000 in
theorem trimr_any (a : Option Addr) (len cap : Nat) (xs : List UInt8) (w : World) (h : Bs w a len cap xs) :
    Calls Tryd.prog 56 #[.slice a len cap, .int .u8 0] w fun e w' => (∃ k, e = .returned (.slice a k cap) ∧ k ≤ len ∧ nil0 (xs.drop k) = true ∧ (0 < k → ∃ i, i < k ∧ xs.getD i 0 ≠ 0)) ∧ w = w' := by
  have hxl := h.1
  have hcap := h.2.1
  have hmax := h.2.2.1
  obtain ⟨b, off, H1⟩ : ∃ b o, Hid (0 < len → a = some ⟨b, o, none⟩ ∧ ∀ i (h : i < xs.length), w.cell? ⟨b, o + i, none⟩ = some (.int .u8 (xs[i].toNat : Int))) := by
    rcases h.2.2.2 with h | ⟨b, off, z1, z2, z3⟩
    · exact ⟨0, 0, Lib.hid fun h' => by omega⟩
    · exact ⟨b, off, Lib.hid fun _ => ⟨z1, z3⟩⟩
  have HX := Lib.hid hxl
  have HM := Lib.hid hmax
  clear h hxl hmax
  go_enter Tryd.func56, Tryd.ntmps56
  go_wp2_with fail
  go_loopw [0] (fun s wr => ∃ k : Nat, s = .slice a k cap ∧ k ≤ len ∧ Hid (nil0 (xs.drop k) = true) ∧ w = wr) (fun s _ => slLen s)
  case atStart => exact ⟨len, rfl, Nat.le_refl _, Lib.hid (by rw [List.drop_eq_nil_of_le (by rw [HX.out]; exact Nat.le_refl _)]; rfl), rfl⟩
  case round =>
    obtain ⟨k, rfl, hk, HN, rfl⟩ := hrel
    by_cases h0 : k = 0
    · subst h0
      go_wp2_with fail
      go_ret
      exact ⟨⟨0, rfl, by omega, HN.out, fun h => by omega⟩, rfl⟩
    · obtain ⟨j, hj⟩ : ∃ j, k = j + 1 := ⟨k - 1, by omega⟩
      have hmax := HM.out
      unfold maxLen at hmax
      have i1 : IntKind.i64.wrap ((k : Int) - 1) = (j : Int) := by rw [IntWalk.i64_in _ (by omega)]; omega
      have e0 : (0 : Int) < (k : Int) := by omega
      have e1 : (0 : Int) ≤ (j : Int) := by omega
      have e2 : (j : Int) < (k : Int) := by omega
      have e3 : (j : Int) ≤ (cap : Int) := by omega
      have e4 : j ≤ cap := by omega
      obtain ⟨rfl, z⟩ := H1.out (by omega)
      have hjx : j < xs.length := by rw [HX.out]; omega
      have hc := z j hjx
      have HJ := Lib.hid hj
      clear z hj h0 hmax
      by_cases hx : xs[j] = 0
      · have hq : (((xs[j]'hjx).toNat : Int) == 0) = true := by rw [hx]; rfl
        have HQ := Lib.hid hx
        clear hx
        go_wp2_with fail
        go_roundw
        case rel => exact ⟨j, rfl, by have := HJ.out; omega, Lib.hid (nil0_drop hjx HQ.out (by rw [← HJ.out]; exact HN.out)), by first | rfl | trivial⟩
        case measure => rw [slLen_slice, slLen_slice]; have := HJ.out; omega
      · have hq := byte_ne hx
        have HQ := Lib.hid hx
        clear hx
        go_wp2_with fail
        go_ret
        exact ⟨⟨k, rfl, hk, HN.out, fun _ => ⟨j, by have := HJ.out; omega, by simpa [List.getElem?_eq_getElem hjx] using HQ.out⟩⟩, rfl⟩
set_option maxRecDepth 100000 in
theorem triml_any (a : Option Addr) (len cap : Nat) (xs : List UInt8) (w : World) (h : Bs w a len cap xs) (hne : 0 < len → nil0 xs = false) :
    Calls Tryd.prog 55 #[.slice a len cap, .int .u8 0] w fun e w' => (∃ a' k c', e = .returned (.slice a' k c') ∧ (k = 0 ↔ len = 0)) ∧ w = w' := by
  have HE := Lib.hid hne
  have HB := Lib.hid h
  clear h hne
  go_enter Tryd.func55, Tryd.ntmps55
  go_wp2_with fail
  go_loopw [0] (fun s wr => ∃ a' k c' ys, s = .slice a' k c' ∧ Hid (Bs w a' k c' ys) ∧ Hid (k = 0 ↔ len = 0) ∧ Hid (0 < k → nil0 ys = false) ∧ w = wr) (fun s _ => slLen s)
  case atStart => exact ⟨a, len, cap, xs, rfl, HB, Lib.hid Iff.rfl, HE, rfl⟩
  case round =>
    obtain ⟨a', k, c', ys, rfl, HB1, HK, HE1, rfl⟩ := hrel
    by_cases h0 : k = 0
    · subst h0
      go_wp2_with fail
      go_ret
      refine ⟨?_, ?_⟩
      · exact ⟨none, 0, ⟨0, rfl⟩, by simpa using HK.out⟩
      · first | rfl | trivial
    · have hB := HB1.out
      rcases hB.2.2.2 with h | ⟨b, off, rfl, z2, z3⟩
      · exact absurd h h0
      · have hyl := hB.1
        have hcc := hB.2.1
        have e0 : (0 : Int) < (k : Int) := by omega
        have e1 : (1 : Int) ≤ (k : Int) := by omega
        have e2 : 1 ≤ k := by omega
        have hc0 := z3 0 (by omega)
        rw [Nat.add_zero] at hc0
        have hne0 : ¬ k = 0 := h0
        have hne1 : ((k : Int) == 0) = false := by rw [beq_eq_false_iff_ne]; omega
        have hy := HE1.out (by omega)
        cases ys with
        | nil => simp at hyl; omega
        | cons y ys =>
          have hc : w.cell? ⟨b, off, none⟩ = some (.int .u8 (y.toNat : Int)) := hc0
          rw [nil0_cons] at hy
          have HYL := Lib.hid hyl
          have HY := Lib.hid hy
          clear z3 h0 hc0 hyl hy hB
          by_cases hx : y = 0
          · have hq : ((y.toNat : Int) == 0) = true := by rw [hx]; rfl
            have hD := HB1.out.drop (k := 1) (by omega)
            have hk1 : k - 1 = 0 → False := fun h => by
              have h1 := HYL.out
              have h2 := HY.out
              rw [List.length_cons] at h1
              have : ys = [] := List.eq_nil_of_length_eq_zero (by omega)
              subst this
              rw [hx] at h2
              simp [nil0] at h2
            have hys : nil0 ys = false := by have h2 := HY.out; rw [hx] at h2; simpa using h2
            obtain ⟨ad, had⟩ : ∃ ad, (if c' = 1 then (some ⟨b, off, none⟩ : Option Addr) else (some ⟨b, off, none⟩ : Option Addr).map (·.add 1)) = ad := ⟨_, rfl⟩
            rw [had] at hD
            have HD := Lib.hid hD
            have HK1 := Lib.hid hk1
            have HYS := Lib.hid hys
            clear hx hD hk1 hys
            by_cases hc1 : c' = 1
            · exact absurd (show k - 1 = 0 by omega) HK1.out
            · rw [if_neg hc1] at had
              subst had
              go_wp2_with fail
              go_roundw
              case rel => exact ⟨_, k - 1, c' - 1, ys, rfl, HD, Lib.hid ⟨fun h => (HK1.out h).elim, fun h => by have := HK.out.2 h; omega⟩, Lib.hid (fun _ => HYS.out), by first | rfl | trivial⟩
              case measure => rw [slLen_slice, slLen_slice]; omega
          · have hq := byte_ne hx
            clear hx
            go_wp2_with fail
            go_ret
            exact ⟨⟨_, k, _, rfl, HK.out⟩, rfl⟩
theorem trimr_b (a : Option Addr) (len cap : Nat) (xs : List UInt8) (w : World) (h : Bs w a len cap xs) :
    Calls Tryd.prog 56 #[.slice a len cap, .int .u8 0] w fun e w' => (∃ k, e = .returned (.slice a k cap) ∧ k ≤ len ∧ nil0 (xs.drop k) = true ∧ (0 < k → ∃ i, i < k ∧ xs.getD i 0 ≠ 0)) ∧ Below w.heap.size w w' :=
  (trimr_any a len cap xs w h).mono fun e w' ⟨h1, h2⟩ => ⟨h1, by rw [← h2]; exact Below.refl _ _⟩
theorem triml_b (a : Option Addr) (len cap : Nat) (xs : List UInt8) (w : World) (h : Bs w a len cap xs) (hne : 0 < len → nil0 xs = false) :
    Calls Tryd.prog 55 #[.slice a len cap, .int .u8 0] w fun e w' => (∃ a' k c', e = .returned (.slice a' k c') ∧ (k = 0 ↔ len = 0)) ∧ Below w.heap.size w w' :=
  (triml_any a len cap xs w h hne).mono fun e w' ⟨h1, h2⟩ => ⟨h1, by rw [← h2]; exact Below.refl _ _⟩
theorem trim_left (xs : List UInt8) (k : Nat) (hi : 0 < k → ∃ i, i < k ∧ xs.getD i 0 ≠ 0) : 0 < k → nil0 (xs.take k) = false := fun h => by
  obtain ⟨i, hik, hx⟩ := hi h
  refine nil0_getD (j := i) ?_
  rw [List.getD_eq_getElem?_getD, List.getElem?_take, if_pos hik, ← List.getD_eq_getElem?_getD]
  exact hx
theorem trim_end (xs : List UInt8) (k k' : Nat) (hN : nil0 (xs.drop k) = true) (hi : 0 < k → ∃ i, i < k ∧ xs.getD i 0 ≠ 0) (hkk : k' = 0 ↔ k = 0) : 0 < k' ↔ nil0 xs = false := by
  constructor
  · intro h
    obtain ⟨i, _, hx⟩ := hi (by omega)
    exact nil0_getD hx
  · intro h
    refine Nat.pos_of_ne_zero fun h0 => ?_
    rw [hkk.1 h0, List.drop_zero, h] at hN
    cases hN
set_option maxRecDepth 100000 in
theorem trim_any (a : Option Addr) (len cap : Nat) (xs : List UInt8) (w : World) (h : Bs w a len cap xs) :
    Calls Tryd.prog 43 #[.slice a len cap, .string ⟨#[0]⟩] w fun e w' => (∃ a' k c', e = .returned (.slice a' k c') ∧ (0 < k ↔ nil0 xs = false)) ∧ Below w.heap.size w w' := by
  by_cases h0 : len = 0
  · subst h0
    have hxs : xs = [] := List.eq_nil_of_length_eq_zero h.1
    subst hxs
    go_enter Tryd.func43, Tryd.ntmps43
    go_wp2_with fail
    go_ret
    exact ⟨⟨_, 0, _, rfl, by simp [nil0]⟩, Below.refl _ _⟩
  · have hne : ((len : Int) == 0) = false := by rw [beq_eq_false_iff_ne]; omega
    have hz : (((⟨#[0]⟩ : ByteArray)[0]'(by decide)).toNat : Int) = 0 := rfl
    have hB := h
    have hE := Ext.refl w
    clear h
    go_enter Tryd.func43, Tryd.ntmps43
    go_upto_region 6 with fail
    obtain ⟨wd, hwd⟩ : ∃ wd, wd = w.drew := ⟨_, rfl⟩
    have hb : Below w.heap.size w wd := by rw [hwd]; exact (Below.refl _ _).drew
    have hB := hB.below hb
    have hE := hE.step hb
    clear hb
    refine held_start (by kernel_rfl) (fun hHeld => ?_)
    rw [← hwd] at hHeld ⊢
    clear hwd
    refine held_take (i := 0) (v := ?_) 21 rfl (by kernel_rfl) (by kernel_rfl) (by kernel_rfl) (fun _ _ _ h => h) rfl (by assumption) (Or.inl ⟨by rfl, ?_⟩) ?_
    rotate_left
    · intro w hSw; go_simp; (try with_reducible rfl)
    simp only [List.set_cons_zero, List.set_cons_succ]
    refine held_take (i := 1) (v := ?_) 22 rfl (by kernel_rfl) (by kernel_rfl) (by kernel_rfl) (fun _ _ _ h => h) rfl (by assumption) (Or.inl ⟨by rfl, ?_⟩) ?_
    rotate_left
    · intro w hSw; go_simp; (try with_reducible rfl)
    simp only [List.set_cons_zero, List.set_cons_succ]
    refine held_take (i := 2) (v := ?_) 23 rfl (by kernel_rfl) (by kernel_rfl) (by kernel_rfl) (fun _ _ _ h => h) rfl (by assumption) (Or.inl ⟨by rfl, ?_⟩) ?_
    rotate_left
    · intro w hSw; go_simp; (try with_reducible rfl)
    simp only [List.set_cons_zero, List.set_cons_succ]
    refine held_take (i := 4) (v := ?_) 25 rfl (by kernel_rfl) (by kernel_rfl) (by kernel_rfl) (fun _ _ _ h => h) rfl (by assumption) (Or.inl ⟨by rfl, ?_⟩) ?_
    rotate_left
    · intro w hSw; go_simp; (try with_reducible rfl)
    simp only [List.set_cons_zero, List.set_cons_succ]
    refine held_take (i := 5) (v := ?_) 26 rfl (by kernel_rfl) (by kernel_rfl) (by kernel_rfl) (fun _ _ _ h => h) rfl (by assumption) (Or.inl ⟨by rfl, ?_⟩) ?_
    rotate_left
    · intro w hSw; go_simp; (try with_reducible rfl)
    simp only [List.set_cons_zero, List.set_cons_succ]
    refine wpAnyH_ready (rs := [3]) (by kernel_rfl) (by simp) ?_
    refine (AllReadyH.cons rfl (fun K hK => ?_) AllReadyH.nil)
    go_simp
    refine (trimr_b _ _ _ xs _ (hB.below hHeld)).mono ?_
    rintro e w1x ⟨⟨k, rfl, hk, hN, hi⟩, hb⟩
    have hbt := HB.trans hHeld hb
    have hB := hB.below hbt
    have hE := hE.step hbt
    have hT := hB.take hk
    have hL := trim_left xs k hi
    go_wp2_with fail
    refine hK.out _ _ hbt (fun _ => held_next hbt (fun hHeld2 => ?_))
    clear hK hHeld hb hbt K
    have hHeld := hHeld2
    clear hHeld2
    refine wpAnyH_ready (rs := [6]) (by kernel_rfl) (by simp) ?_
    refine (AllReadyH.cons rfl (fun K hK => ?_) AllReadyH.nil)
    go_simp
    refine (triml_b _ _ _ _ _ hT hL).mono ?_
    rintro e w2x ⟨⟨a', k', c', rfl, hkk⟩, hb⟩
    have hbt := HB.trans hHeld hb
    have hB := hB.below hbt
    have hE := hE.step hbt
    have hT := hT.below hbt
    go_wp2_with fail
    refine hK.out _ _ hbt (fun _ => held_next hbt (fun hHeld2 => ?_))
    clear hK hHeld hb hbt K
    have hHeld := hHeld2
    clear hHeld2
    refine held_take (i := 7) (v := ?_) 4 rfl (by kernel_rfl) (by kernel_rfl) (by kernel_rfl) (fun _ _ _ h => h) rfl (by assumption) (Or.inl ⟨by rfl, ?_⟩) ?_
    rotate_left
    · intro w hSw; go_simp; (try with_reducible rfl)
    simp only [List.set_cons_zero, List.set_cons_succ]
    refine wpAnyH_done (by kernel_rfl) ?_ _
    go_wp2_with fail
    go_ret
    exact ⟨⟨_, _, _, rfl, trim_end xs k k' hN hi hkk⟩, (hE.step hHeld).1⟩
end Go.Proofs.YtdglhonogopciaaDoor
