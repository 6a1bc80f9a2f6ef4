/- The walk of permafrostlaw3.CrcLinear. -/
import Derived.Test.YtlmhlcdpapfeoaaCrcKnown
import Derived.Test.YtlmhlcdpapfeoaaCrcLaw
import Derived.Test.YtlmhlcdpapfeoaaOwn
import Derived.Test.YtlmhlcdpapfeoaaWithin
import Derived.Deep.DeepCutAuto
namespace Go.Proofs.Ytlmhlcdpapfeoaa
open Go.RowKit

set_option maxRecDepth 100000 in
set_option maxHeartbeats 400000 in
theorem CrcLinear_walk (a0 : Option Addr) (len0 cap0 : Nat) (z0 : List Int) (a1 : Option Addr) (len1 cap1 : Nat) (z1 : List Int) (a2 : Int) (a3 : Int) (a4 : Int) (w : World) (w0 : IsRow .u8 w a0 len0 cap0 z0) (w1 : IsRow .u8 w a1 len1 cap1 z1) (w2 : (Lit.int .u8 a2).wf = true) (_w3 : (Lit.int .i64 a3).wf = true) (_w4 : (Lit.int .i64 a4).wf = true) :
    Calls Try.prog 7 #[.slice a0 len0 cap0, .slice a1 len1 cap1, .int .u8 a2, .int .i64 a3, .int .i64 a4] w fun e w' => e = .returned (.bool true) ∧ Below w.heap.size w w' := by
  have hA := Bs.ofRow w0
  have hB := Bs.ofRow w1
  generalize bytesOf len0 z0 = xs at *
  generalize bytesOf len1 z1 = ys at *
  obtain rfl := hA.1
  obtain rfl := hB.1
  clear w0 w1
  go_enter Try.func7, Try.ntmps7
  go_upto_if 20 with fail
  go_cut [11] (fun s wx => s = .int .i64 ((min xs.length ys.length : Nat) : Int) ∧ w = wx)
  case first =>
    by_cases h : ys.length < xs.length
    · go_wp2_with fail
      go_meet
      exact ⟨by rw [Nat.min_eq_right (by omega)], rfl⟩
    · go_wp2_with fail
      go_meet
      exact ⟨by rw [Nat.min_eq_left (by omega)], rfl⟩
  case rest =>
    obtain ⟨rfl, rfl⟩ := hcut
    have hm1 : min xs.length ys.length ≤ xs.length := by omega
    have hm2 : min xs.length ys.length ≤ ys.length := by omega
    generalize min xs.length ys.length = m at *
    go_upto_if 24 with fail
    go_cut [11] (fun s wx => s = .int .i64 ((min m 300 : Nat) : Int) ∧ w = wx)
    case first =>
      by_cases h : 300 < m
      · go_wp2_with fail
        go_meet
        exact ⟨by rw [Nat.min_eq_right (by omega)]; rfl, rfl⟩
      · go_wp2_with fail
        go_meet
        exact ⟨by rw [Nat.min_eq_left (by omega)], rfl⟩
    case rest =>
      obtain ⟨rfl, rfl⟩ := hcut
      have hn1 : min m 300 ≤ xs.length := by omega
      have hn2 : min m 300 ≤ ys.length := by omega
      have hn3 : min m 300 ≤ 300 := by omega
      generalize min m 300 = n at *
      clear hm1 hm2 m
      go_upto_region 6 with fail
      go_cut [12, 13] (fun s t wx => ∃ g h : Nat, s = .slice (some ⟨g, 0, none⟩) n n ∧ t = .slice (some ⟨h, 0, none⟩) n n ∧ g ≠ h ∧ w.heap.size ≤ g ∧ w.heap.size ≤ h ∧ Row wx g n (List.replicate n 0) ∧ Row wx h n (List.replicate n 0) ∧ Ext w.heap.size w wx)
      case first =>
        have hmk := run_make_bytes n (by omega)
        go_region
        · go_wp2_with fail
          go_meet
          exact ⟨_, _, rfl, rfl, by omega, by omega, by omega, ((Row.zero _ n (by unfold maxLen; omega)).alloc _).drew, by simpa using (Row.zero (w.alloc (.cells (madeCells #[.int .u8 0] n) TB)) n (by unfold maxLen; omega)).drew, (((Ext.refl w).alloc _).alloc _).drew⟩
        · go_wp2_with fail
          go_meet
          exact ⟨_, _, rfl, rfl, by omega, by omega, by omega, by simpa using (Row.zero (w.alloc (.cells (madeCells #[.int .u8 0] n) TB)) n (by unfold maxLen; omega)).drew, ((Row.zero _ n (by unfold maxLen; omega)).alloc _).drew, (((Ext.refl w).alloc _).alloc _).drew⟩
      case rest =>
        obtain ⟨g, h, rfl, rfl, hgh, hg, hh, hRg, hRh, hE⟩ := hcut
        obtain ⟨X, rfl⟩ : ∃ X : UInt8, (X.toNat : Int) = a2 := ⟨byteOf a2, byteOf_toNat w2⟩
        obtain ⟨cL, hcL⟩ : ∃ cL, cL = (List.range n).map (fun j => X + UInt8.ofNat j) := ⟨_, rfl⟩
        obtain ⟨dL, hdL⟩ : ∃ dL, dL = List.zipWith (· ^^^ ·) (List.zipWith (· ^^^ ·) (xs.take n) (ys.take n)) cL := ⟨_, rfl⟩
        have hcl : cL.length = n := by simp [hcL]
        have hdl : dL.length = n := by simp [hdL, hcl]; omega
        have hcg : ∀ k (h : k < n), cL[k]'(by omega) = X + UInt8.ofNat k := fun k h => by simp [hcL]
        have hdg : ∀ k (h : k < n), dL[k]'(by omega) = xs[k] ^^^ ys[k] ^^^ cL[k]'(by omega) := fun k h => by simp [hdL]
        have HCL := Lib.hid hcL
        have HDL := Lib.hid hdL
        clear hcL hdL
        go_wp2_with fail
        go_loopw [14] (fun i wr => ∃ k : Nat, k ≤ n ∧ i = .int .i64 k ∧ Ext w.heap.size w wr ∧ Row wr g n (part cL k) ∧ Row wr h n (part dL k)) (fun i _ => n - (intOf i).toNat)
        case atStart => exact ⟨0, by omega, rfl, hE, by rw [part_zero, hcl]; exact hRg, by rw [part_zero, hdl]; exact hRh⟩
        case round =>
          obtain ⟨k, hk, rfl, hEr, hR1, hR2⟩ := hrel
          by_cases hlt : k < n
          · have hl1 := part_length cL k (by omega)
            have hl2 := part_length dL k (by omega)
            have hx1 := hR1.cell k (by omega)
            have hf1 := hR1.frozen k
            have HV := Lib.hid (show (.int .u8 (((X.toNat : Int) + (k : Int)) % 256) : Value) = .int .u8 ((cL[k]'(by omega)).toNat : Int) by
              rw [hcg k hlt, UInt8.toNat_add, UInt8.toNat_ofNat']; congr 1; omega)
            have hS1 := hR1.set k (cL[k]'(by omega))
            rw [part_succ cL k (by omega)] at hS1
            have hS2 := hR2.setOther (a := ⟨g, k, none⟩) (Ne.symm hgh) (.int .u8 ((cL[k]'(by omega)).toNat : Int))
            have hE2 := hEr.setCell (p := ⟨g, k, none⟩) hg (.int .u8 ((cL[k]'(by omega)).toNat : Int))
            clear hR1 hR2
            go_wp2_with fail
            rw [HV.out]
            generalize wr.setCell ⟨g, k, none⟩ (.int .u8 ((cL[k]'(by omega)).toNat : Int)) = wx at *
            clear hx1 hf1 hEr HV wr
            obtain ⟨ba, oa, ha, hba, hca⟩ : ∃ b off, a0 = some ⟨b, off, none⟩ ∧ b < w.heap.size ∧ ∀ i (h : i < xs.length), w.cell? ⟨b, off + i, none⟩ = some (.int .u8 (xs[i].toNat : Int)) := by
              rcases hA.2.2.2 with h | h
              · omega
              · exact h
            obtain ⟨bb, ob, hb, hbb, hcb⟩ : ∃ b off, a1 = some ⟨b, off, none⟩ ∧ b < w.heap.size ∧ ∀ i (h : i < ys.length), w.cell? ⟨b, off + i, none⟩ = some (.int .u8 (ys[i].toNat : Int)) := by
              rcases hB.2.2.2 with h | h
              · omega
              · exact h
            subst ha
            subst hb
            have h1 := (hE2.1.cell (p := ⟨ba, oa + k, none⟩) hba).trans (hca k (by omega))
            have h2 := (hE2.1.cell (p := ⟨bb, ob + k, none⟩) hbb).trans (hcb k (by omega))
            have hl3 := part_length cL (k + 1) (by omega)
            have h3 := hS1.cell k (by omega)
            have h3v : (part cL (k + 1))[k]'(by omega) = cL[k]'(by omega) := by simp only [part]; rw [List.getElem_append_left (by simp; omega)]; simp
            rw [h3v] at h3
            have h4 := hS2.cell k (by omega)
            have h5 := hS2.frozen k
            have hxo1 := u8_xor_nat (xs[k].toNat) (ys[k].toNat) (UInt8.toNat_lt _) (UInt8.toNat_lt _)
            have hxo2 := u8_xor_nat (xs[k].toNat ^^^ ys[k].toNat) ((cL[k]'(by omega)).toNat) (by rw [← UInt8.toNat_xor]; exact UInt8.toNat_lt _) (UInt8.toNat_lt _)
            have HD := Lib.hid (show (.int .u8 ((xs[k].toNat ^^^ ys[k].toNat ^^^ (cL[k]'(by omega)).toNat : Nat) : Int) : Value) = .int .u8 ((dL[k]'(by omega)).toNat : Int) by
              rw [hdg k hlt, UInt8.toNat_xor, UInt8.toNat_xor])
            clear hcg hdg hca hcb h3v
            have hT1 := hS2.set k (dL[k]'(by omega))
            rw [part_succ dL k (by omega)] at hT1
            have hT2 := hS1.setOther (a := ⟨h, k, none⟩) hgh (.int .u8 ((dL[k]'(by omega)).toNat : Int))
            have hE3 := hE2.setCell (p := ⟨h, k, none⟩) hh (.int .u8 ((dL[k]'(by omega)).toNat : Int))
            go_region
            rw [HD.out]
            generalize wx.setCell ⟨h, k, none⟩ (.int .u8 ((dL[k]'(by omega)).toNat : Int)) = wy at *
            go_wp2_with fail
            go_roundw
            case rel => exact ⟨k + 1, by omega, by go_num, hE3.drew, hT2.drew, hT1.drew⟩
            case measure => simp [intOf]; omega
          · obtain rfl : k = n := by omega
            rw [part_full cL k (by omega)] at hR1
            rw [part_full dL k (by omega)] at hR2
            have hl := crc_linear (xs.take k) (ys.take k) cL (by simp; omega) (by simp; omega)
            rw [← HDL.out] at hl
            have hA' := hA.below hEr.1
            have hB' := hB.below hEr.1
            have hS1 := hA'.take hn1
            have hS2 := hB'.take hn2
            have hS3 := hR1.bs
            rw [hcl] at hS3
            have hS4 := hR2.bs
            rw [hdl] at hS4
            have hca := hA.2.1
            have hcb := hB.2.1
            have m1 := crcMore_lt 0 (xs.take k)
            have m2 := crcMore_lt 0 (ys.take k)
            have m3 := crcMore_lt 0 cL
            have hx1 := u32_xor_nat _ _ m1 m2
            have hx2 := u32_xor_nat _ _ (Nat.xor_lt_two_pow (n := 32) m1 m2) m3
            rw [hl] at hx2
            have hk2 := within_bd a3 0 k (by omega)
            obtain ⟨p, hp⟩ := Int.eq_ofNat_of_zero_le hk2.1
            rw [hp] at hk2
            have hk3 := within_bd a4 p k (by omega)
            obtain ⟨q, hq⟩ := Int.eq_ofNat_of_zero_le (show 0 ≤ within a4 p k by omega)
            rw [hq] at hk3
            have HP := Lib.hid hp
            have HQ := Lib.hid hq
            have hp1 : p ≤ q := by omega
            have hq1 : q ≤ k := by omega
            clear hp hq hk2 hk3
            have hT1 := hA'.take (k := p) (by omega)
            have hT2 := (hA'.drop (k := p) (by omega)).take (k := q - p) (by omega)
            have hT3 := (hA'.drop (k := q) (by omega)).take (k := k - q) (by omega)
            have e1 : crcMore (crcMore 0 (xs.take p)) ((xs.drop p).take (q - p)) = crcMore 0 (xs.take q) := by
              rw [crcMore_append 0 (by omega), ← List.take_add]; congr 2; omega
            have e2 : crcMore (crcMore 0 (xs.take q)) ((xs.drop q).take (k - q)) = crcMore 0 (xs.take k) := by
              rw [crcMore_append 0 (by omega), ← List.take_add]; congr 2; omega
            have m4 := crcMore_lt 0 (xs.take p)
            have m5 := crcMore_lt 0 (xs.take q)
            have E1 := Lib.hid e1
            have E2 := Lib.hid e2
            clear hl e1 e2
            go_wp2_with fail
            refine wp_region_over (by kernel_rfl) (by kernel_rfl) ?_
            repeat (go_big_quiet_step ((first | (go_at_call_of 17 (Value.slice a0 k cap0); exact over_same (sum_any _ _ _ _ _ (hS1.over _))) | (go_at_call_of 17 (Value.slice a1 k cap1); exact over_same (sum_any _ _ _ _ _ (hS2.over _))) | (go_at_call_of 17 (Value.slice (some ⟨g, 0, none⟩) k k); exact over_same (sum_any _ _ _ _ _ (hS3.over _))) | (go_at_call_of 17 (Value.slice (some ⟨h, 0, none⟩) k k); exact over_same (sum_any _ _ _ _ _ (hS4.over _))))))
            refine wpQuiet_nil ?_
            rintro _ ⟨nq, rfl⟩
            go_wp2_with fail
            refine (within_any a3 0 k _ (by omega) (by omega) (by omega)).mono ?_
            rintro e w' ⟨rfl, rfl⟩
            rw [HP.out]
            go_wp2_with fail
            refine (within_any a4 p k _ (by omega) (by omega) (by omega)).mono ?_
            rintro e w' ⟨rfl, rfl⟩
            rw [HQ.out]
            go_wp2_with fail
            have hE5 := hEr.step (below_over wr nq)
            replace hS1 := hS1.over nq
            replace hT1 := hT1.over nq
            replace hT2 := hT2.over nq
            replace hT3 := hT3.over nq
            generalize World.over wr nq = wz at *
            refine wp_region_over (by kernel_rfl) (by kernel_rfl) ?_
            repeat (go_big_quiet_step ((first | (go_at_call 17; exact over_same (sum_any _ _ _ _ _ (hS1.over _))) | (go_at_call_of 19 (Value.slice a0 p cap0); exact over_same (more_any 0 _ _ _ _ _ (by omega) (hT1.over _))) | (go_at_call_of 19 (Value.int .u32 (crcMore 0 (xs.take p) : Nat)); exact over_same (more_eq _ _ _ _ _ _ _ m4 (hT2.over _) E1.out)) | (go_at_call_of 19 (Value.int .u32 (crcMore 0 (xs.take q) : Nat)); exact over_same (more_eq _ _ _ _ _ _ _ m5 (hT3.over _) E2.out)) | (go_at_call 20; exact over_below (crc_known _)))))
            refine wpQuiet_nil ?_
            rintro _ ⟨nq, rfl⟩
            go_wp2
            all_goals (go_ret; exact ⟨rfl, (hE5.step (below_over _ _)).1⟩)
end Go.Proofs.Ytlmhlcdpapfeoaa
