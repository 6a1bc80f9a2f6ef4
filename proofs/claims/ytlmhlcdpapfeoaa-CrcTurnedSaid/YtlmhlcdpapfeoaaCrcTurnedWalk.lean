/- The walk of permafrostlaw3.CrcTurned. -/
import Derived.Test.YtlmhlcdpapfeoaaCrcKnown
import Derived.Test.YtlmhlcdpapfeoaaCrcLaw
import Derived.Test.YtlmhlcdpapfeoaaOwn
import Derived.Test.YtlmhlcdpapfeoaaWithin
import Derived.Test.YtlmhlcdpapfeoaaCut
namespace Go.Proofs.Ytlmhlcdpapfeoaa
open Go.RowKit

theorem CrcTurned_walk (a0 : Option Addr) (len0 cap0 : Nat) (z0 : List Int) (a1 : Int) (a2 : Option Addr) (len2 cap2 : Nat) (z2 : List Int) (w : World) (w0 : IsRow .u8 w a0 len0 cap0 z0) (_w1 : (Lit.int .i64 a1).wf = true) (w2 : IsRow .u8 w a2 len2 cap2 z2) :
    Calls Try.prog 6 #[.slice a0 len0 cap0, .int .i64 a1, .slice a2 len2 cap2] w fun e w' => e = .returned (.bool true) ∧ Below w.heap.size w w' := by
  have hB := Bs.ofRow w0
  have hT := Bs.ofRow w2
  have hB1 := hB.take (k := min len0 300) (by omega)
  generalize (bytesOf len0 z0).take (min len0 300) = xs at *
  generalize bytesOf len2 z2 = ts at *
  have hm : min len0 300 ≤ 300 := by omega
  have hlen := hB.2.1
  obtain rfl := hT.1
  go_enter Try.func6, Try.ntmps6
  go_wp2_with fail
  refine (cut_any 300 a0 len0 cap0 _ hlen (by omega)).mono ?_
  rintro e w' ⟨rfl, rfl⟩
  generalize min len0 300 = n at *
  clear hB hlen w0 w2
  obtain rfl := hB1.1
  by_cases hn : xs.length = 0
  · have hn0 : ((xs.length : Int) == 0) = true := by rw [hn]; rfl
    clear hn
    go_wp2_with fail
    refine (crc_known _).mono ?_
    rintro e w' ⟨rfl, hb⟩
    go_wp2_with fail
    go_ret
    exact ⟨rfl, hb⟩
  have hn0 : ((xs.length : Int) == 0) = false := by rw [beq_eq_false_iff_ne]; omega
  have hk := within_bd a1 0 ((xs.length : Int) - 1) (by omega)
  go_wp2_with fail
  refine (within_any a1 0 ((xs.length : Int) - 1) _ (by omega) (by omega) (by omega)).mono ?_
  rintro e w' ⟨rfl, rfl⟩
  obtain ⟨k, hkk⟩ := Int.eq_ofNat_of_zero_le hk.1
  rw [hkk] at hk ⊢
  clear hkk
  have hk2 : k < xs.length := by omega
  clear hk
  go_wp2_with (at_builtin; refine wpList_append_bytes rfl _ _ rfl (w.heap.size) _ [] rfl (Own.of_row (Row.made _ _ 0 0 [] rfl rfl (by omega) (by simp [maxLen]) rfl) (by simp)) a0 xs.length cap0 xs rfl (hB1.alloc _) ?_ (by simp) ?_)
  · simp; omega
  intro v' w1 hown hg _
  have hE := ((Ext.refl w).alloc (.cells #[] TB)).grown hg (fun k hk => by simp [Value.ownBlock] at hk; omega)
  have hrow : ∃ g cap, v' = .slice (some ⟨g, 0, none⟩) xs.length cap ∧ w.heap.size ≤ g ∧ Row w1 g cap xs := by
    rcases hown.parts with ⟨h1, h2⟩ | h
    · contradiction
    · simpa using h
  obtain ⟨g, cap, hv, hg1, hr⟩ := hrow
  rw [hv]
  clear hown hg hv
  go_wp2_with fail
  go_loopw [9, 10] (fun s i wr => ∃ m : Nat, m ≤ 4 ∧ m ≤ ts.length ∧ k + m ≤ xs.length ∧ i = .int .i64 m ∧ s = .bool (allz ts m) ∧ Ext w.heap.size w wr ∧ Row wr g cap (turned xs k ts m)) (fun _ i _ => 4 - (intOf i).toNat)
  case atStart => exact ⟨0, by omega, by omega, by omega, rfl, by rw [allz_zero], hE, by rw [turned_zero]; exact hr⟩
  case round =>
    obtain ⟨m, hm1, hm2, hm3, rfl, rfl, hEr, hRr⟩ := hrel
    by_cases hc : m < ts.length ∧ m < 4 ∧ k + m < xs.length
    · obtain ⟨h1, h2, h3⟩ := hc
      obtain ⟨b2, off2, ha2, hb2, hc2⟩ : ∃ b off, a2 = some ⟨b, off, none⟩ ∧ b < w.heap.size ∧ ∀ i (h : i < ts.length), w.cell? ⟨b, off + i, none⟩ = some (.int .u8 (ts[i].toNat : Int)) := by
        rcases hT.2.2.2 with h | h
        · omega
        · exact h
      subst ha2
      have ht := (hEr.1.cell (p := ⟨b2, off2 + m, none⟩) hb2).trans (hc2 m h1)
      have hne : ¬ g = b2 := by omega
      have htl := turned_length xs k ts m (by omega) (by omega)
      have hx := hRr.cell (k + m) (by omega)
      have hxv : (turned xs k ts m)[k + m]'(by omega) = xs[k + m] := by rw [turned_get _ _ _ _ (by omega) (by omega) _ h3, dif_neg (by omega)]
      rw [hxv] at hx
      have hfz := hRr.frozen (k + m)
      have hxo := u8_xor_nat (xs[k + m].toNat) (ts[m].toNat) (UInt8.toNat_lt _) (UInt8.toNat_lt _)
      have HX := Lib.hid (show (.int .u8 ((xs[k + m].toNat ^^^ ts[m].toNat : Nat) : Int) : Value) = .int .u8 ((xs[k + m] ^^^ ts[m]).toNat : Int) by rw [UInt8.toNat_xor])
      have hR2 := hRr.set (k + m) (xs[k + m] ^^^ ts[m])
      rw [← turned_succ xs k ts m h3 h1] at hR2
      have hE2 := hEr.setCell (p := ⟨g, k + m, none⟩) hg1 (.int .u8 ((xs[k + m] ^^^ ts[m]).toNat : Int))
      have HA := Lib.hid (allz_succ ts m h1)
      have ht2 := (hE2.1.cell (p := ⟨b2, off2 + m, none⟩) hb2).trans (hc2 m h1)
      clear hxv hc2 hr hE
      go_wp2_with fail
      go_region
      rw [HX.out]
      generalize wr.setCell ⟨g, k + m, none⟩ (.int .u8 ((xs[k + m] ^^^ ts[m]).toNat : Int)) = wx at *
      by_cases hs : allz ts m = true
      · by_cases hz : ts[m] = 0
        · have hz0 : (ts[m].toNat : Int) = 0 := by rw [hz]; rfl
          rw [hz0] at ht2
          clear hz0 ht HX hxo
          go_wp2_with fail
          go_roundw
          case rel => exact ⟨m + 1, by omega, by omega, by omega, by go_num, by rw [HA.out, hs, hz]; rfl, hE2.drew, hR2.drew⟩
          case measure => simp [intOf]; omega
        · have hz0 : ((ts[m].toNat : Int) == 0) = false := by rw [beq_eq_false_iff_ne]; intro h; exact hz (UInt8.toNat_inj.1 (by simp; omega))
          go_wp2_with fail
          go_roundw
          case rel => exact ⟨m + 1, by omega, by omega, by omega, by go_num, by rw [HA.out, beq_eq_false_iff_ne.2 hz]; simp, hE2.drew, hR2.drew⟩
          case measure => simp [intOf]; omega
      · have hs' : allz ts m = false := by simpa using hs
        clear hs
        go_wp2_with fail
        go_roundw
        case rel => exact ⟨m + 1, by omega, by omega, by omega, by go_num, by rw [HA.out, hs']; rfl, hE2.drew, hR2.drew⟩
        case measure => simp [intOf]; omega
    · have hB2 := hB1.below hEr.1
      have htl := turned_length xs k ts m (by omega) (by omega)
      have hS := hRr.bs
      rw [htl] at hS
      have he : ((crcMore 0 (turned xs k ts m) : Int) == (crcMore 0 xs : Int)) = allz ts m := by
        rw [Bool.eq_iff_iff, allz_iff, ← crc_turned xs k ts m (by omega) (by omega) (by omega), beq_iff_eq]
        omega
      rcases (show ¬ m < ts.length ∨ (m < ts.length ∧ ¬ m < 4) ∨ (m < ts.length ∧ m < 4 ∧ decide ((k : Int) + (m : Int) < (xs.length : Int)) = false) by
        by_cases h1 : m < ts.length
        · by_cases h2 : m < 4
          · exact .inr (.inr ⟨h1, h2, by simp; omega⟩)
          · exact .inr (.inl ⟨h1, h2⟩)
        · exact .inl h1) with h | ⟨h, h'⟩ | ⟨h, h', h''⟩
      all_goals
        clear hc
        go_wp2_with fail
        refine (sum_any _ _ _ _ _ hS).mono ?_
        rintro e w' ⟨rfl, rfl⟩
        go_wp2_with fail
        refine (sum_any _ _ _ _ _ hB2).mono ?_
        rintro e w' ⟨rfl, rfl⟩
        go_wp2_with fail
        refine (crc_known _).mono ?_
        rintro e w' ⟨rfl, hb⟩
        go_wp2_with fail
        go_ret
        exact ⟨rfl, (hEr.step hb).1⟩
end Go.Proofs.Ytlmhlcdpapfeoaa
