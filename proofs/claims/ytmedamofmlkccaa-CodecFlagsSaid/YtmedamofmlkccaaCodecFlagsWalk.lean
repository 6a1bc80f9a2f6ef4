/- The walk of permafrostlaw4.CodecFlags. -/
import Derived.Test.YtmedamofmlkccaaCodecKnown
import Derived.Test.YtmedamofmlkccaaReader
import Derived.Test.YtmedamofmlkccaaWithin
import Derived.Test.YtmedamofmlkccaaArg
import Derived.Deep.DeepCutAuto
namespace Go.Proofs.Ytmedamofmlkccaa
open Go.RowKit

theorem fb_toNat (b : Bool) : (fb b).toNat = if b then 1 else 0 := by cases b <;> rfl
theorem rdRaw_one (y : UInt8) (ys : List UInt8) : rdRaw (y :: ys, 0) 1 = ([y], (ys, 0)) := by
  unfold rdRaw
  simp only
  rw [if_neg (by simp), if_neg (by simp; omega), if_neg (by omega)]
  simp
theorem rdRaw_errs (xs : List UInt8) (why : Nat) (n : Int) (h : why ≠ 0) : rdRaw (xs, why) n = ([], (xs, why)) := by
  unfold rdRaw; rw [if_pos h]
theorem rdFlag_ok (b : Bool) (ys : List UInt8) : rdFlag (fb b :: ys, 0) = (b, (ys, 0)) := by
  unfold rdFlag rdByte
  rw [rdRaw_one]
  cases b <;> rfl
theorem rdFlag_bad (y : UInt8) (ys : List UInt8) (h : 1 < y.toNat) : rdFlag (y :: ys, 0) = (false, (ys, 12)) := by
  unfold rdFlag rdByte
  rw [rdRaw_one]
  simp only
  rw [if_pos (by simpa [num] using h)]
theorem take_fb (bs : List Bool) (k : Nat) (h : k < bs.length) : (bs.take (k + 1)).map fb = (bs.take k).map fb ++ [fb bs[k]] := by
  rw [List.take_succ_eq_append_getElem h, List.map_append, List.map_cons, List.map_nil]
theorem rdFlag_err (xs : List UInt8) (why : Nat) (h : why ≠ 0) : rdFlag (xs, why) = (false, (xs, why)) := by
  unfold rdFlag rdByte
  rw [rdRaw_errs _ _ _ h]
  rfl

set_option maxRecDepth 100000 in
theorem CodecFlags_walk (v0 : Value) (v1 : Value) (v2 : Value) (w : World) (h0 : Arg Try.prog w 22 v0) (h1 : Arg Try.prog w 3 v1) (h2 : Arg Try.prog w 5 v2) :
    Calls Try.prog 3 #[v0, v1, v2] w fun e w' => e = .returned (.bool true) ∧ Below w.heap.size w w' := by
  obtain ⟨a0, len0, cap0, bs, rfl, hA⟩ := h0.bools Try.underlying22 Try.underlying4 (by kernel_rfl)
  obtain ⟨at_, rfl, _⟩ := h1.int Try.underlying3
  obtain ⟨z, rfl, hz⟩ := h2.int Try.underlying5
  obtain ⟨bad, rfl⟩ : ∃ bad : UInt8, (bad.toNat : Int) = z := ⟨byteOf z, byteOf_toNat hz⟩
  obtain rfl := hA.1
  have hlc := hA.2.1
  clear h0 h1 h2 hz
  go_enter Try.func3, Try.ntmps3
  go_wp2_with fail
  refine (wnew_any _).mono ?_
  rintro e w1 ⟨rfl, hW1, hb1⟩
  have hE1 := (Ext.refl w).step hb1
  obtain ⟨p, hp⟩ : ∃ p, p = w.heap.size := ⟨_, rfl⟩
  rw [← hp] at hW1 hE1 ⊢
  have HP := Lib.hid hp
  clear hp hb1
  go_upto_if 21 with fail
  go_cut [8] (fun s wx => s = .int .i64 ((min bs.length 40 : Nat) : Int) ∧ w1 = wx)
  case first =>
    by_cases h : 40 < bs.length
    · go_wp2_with fail
      go_meet
      exact ⟨by rw [Nat.min_eq_right (by omega)]; rfl, rfl⟩
    · go_wp2_with fail
      go_meet
      exact ⟨by rw [Nat.min_eq_left (by omega)], rfl⟩
  case rest =>
    obtain ⟨rfl, rfl⟩ := hcut
    have hn1 : min bs.length 40 ≤ bs.length := by omega
    have hn2 : min bs.length 40 ≤ 40 := by omega
    generalize min bs.length 40 = n at *
    obtain ⟨ba, oa, HA⟩ : ∃ b off, Hid (0 < n → a0 = some ⟨b, off, none⟩ ∧ b < p ∧ ∀ i (h : i < bs.length), w.cell? ⟨b, off + i, none⟩ = some (.bool bs[i])) := by
      rcases hA.2.2.2 with h | ⟨b, off, h1, h2, h3⟩
      · exact ⟨0, 0, Lib.hid fun h' => by omega⟩
      · exact ⟨b, off, Lib.hid fun _ => ⟨h1, by rw [HP.out]; exact h2, h3⟩⟩
    go_wp2_with fail
    go_loopw [9] (fun i wr => ∃ k : Nat, k ≤ n ∧ i = .int .i64 k ∧ Ext p w wr ∧ ∃ g, Wr wr p p g ((bs.take k).map fb)) (fun i _ => n - (intOf i).toNat)
    case atStart => exact ⟨0, by omega, rfl, hE1, none, by simpa using hW1⟩
    case round =>
      obtain ⟨k, hk, rfl, hE, g, hW⟩ := hrel
      by_cases hlt : k < n
      · obtain ⟨ha0, hba, hca⟩ := HA.out (by omega)
        subst ha0
        have hc := (hE.1.cell (p := ⟨ba, oa + k, none⟩) hba).trans (hca k (by omega))
        have HT := Lib.hid (show (bs.take (k + 1)).map fb = (bs.take k).map fb ++ [fb bs[k]] from take_fb bs k (by omega))
        clear hca
        go_wp2_with fail
        refine (wflag_any p p bs[k] g _ _ hW (by simp; unfold big; omega)).mono ?_
        rintro e w2 ⟨rfl, g2, hW2, hC2, hg2⟩
        go_wp2_with fail
        go_roundw
        case rel => exact ⟨k + 1, by omega, by go_num, hE.to (hW.belowOf hC2), g2, by rw [HT.out]; exact hW2⟩
        case measure => simp [intOf]; omega
      · obtain rfl : k = n := by omega
        go_wp2_with fail
        refine (wdone_any p p g _ _ hW (by simp; unfold big; omega)).mono ?_
        rintro e w2 ⟨v, rfl, ho, hb2⟩
        obtain ⟨a1, cap1, rfl, hB⟩ := ho.bsn (n := k) (by simp; omega)
        have hE2 := hE.step hb2
        have hcap1 := hB.2.1
        obtain ⟨gr, HG⟩ : ∃ gr, Hid (0 < k → a1 = some ⟨gr, 0, none⟩ ∧ p ≤ gr ∧ Row w2 gr cap1 ((bs.take k).map fb)) := by
          rcases ho.parts with ⟨h1, h2⟩ | ⟨g', c', h1, h2, h3⟩
          · exact ⟨0, Lib.hid fun h => by have := congrArg List.length h2; rw [List.length_map, List.length_take] at this; simp only [List.length_nil] at this; omega⟩
          · simp at h1; obtain ⟨rfl, _, rfl⟩ := h1
            exact ⟨g', Lib.hid fun _ => ⟨rfl, Nat.le_trans hE.2 h2, h3⟩⟩
        clear ho hb2 hW
        have hkb : k ≤ bs.length := by omega
        have hkk : (((k : Nat) : Int) != (k : Int)) = false := by simp
        go_upto_region 15 with fail
        go_cut [45] (fun s wx => s = .bool (decide (0 < k) && decide (1 < bad.toNat)) ∧ w2 = wx)
        case first =>
          by_cases h0 : 0 < k
          · have ht1 : decide ((0 : Int) < (k : Int)) = true := by simpa using h0
            by_cases hbad : 1 < bad.toNat
            · have ht2 : decide ((1 : Int) < (bad.toNat : Int)) = true := decide_eq_true (by omega)
              go_wp2_with fail
              go_meet
              exact ⟨by rw [decide_eq_true h0, decide_eq_true hbad]; rfl, rfl⟩
            · have ht2 : decide ((1 : Int) < (bad.toNat : Int)) = false := decide_eq_false (by omega)
              go_wp2_with fail
              go_meet
              exact ⟨by rw [decide_eq_true h0, decide_eq_false hbad]; rfl, rfl⟩
          · obtain rfl : k = 0 := by omega
            go_wp2_with fail
            go_meet
            exact ⟨rfl, rfl⟩
        case rest =>
          obtain ⟨rfl, rfl⟩ := hcut
          obtain ⟨tst, HTST⟩ : ∃ t, Hid (t = (decide (0 < k) && decide (1 < bad.toNat))) := ⟨_, Lib.hid rfl⟩
          rw [← HTST.out]
          go_upto_if 45 with fail
          go_cut [11] (fun s wx => ∃ (m : Nat) (ys : List UInt8), s = .int .i64 (m : Int) ∧ m ≤ k ∧ Bs wx a1 k cap1 ys ∧ Ext p w wx ∧ (∀ i (h : i < k), ∃ y, ys[i]? = some y ∧ (i < m → y = fb (bs[i]'(Nat.lt_of_lt_of_le h hkb))) ∧ (i = m → 1 < y.toNat)))
          case first =>
            cases tst
            · go_wp2_with fail
              go_meet
              refine ⟨k, _, rfl, by omega, hB, hE2, ?_⟩
              intro i h
              exact ⟨fb (bs[i]'(Nat.lt_of_lt_of_le h hkb)), by rw [List.getElem?_map, List.getElem?_take, if_pos h, List.getElem?_eq_getElem (by omega)]; rfl, fun _ => rfl, fun h2 => by omega⟩
            · have hh := HTST.out
              have h0 : 0 < k := by
                rcases Nat.eq_zero_or_pos k with h | h
                · subst h; simp at hh
                · exact h
              have hbad : 1 < bad.toNat := by simp [h0] at hh; simpa using hh
              clear hh
              obtain ⟨ha1, hpg, hR⟩ := HG.out h0
              subst ha1
              go_wp2_with fail
              refine (within_any at_ 0 ((k : Int) - 1) _ (by omega) (by omega) (by omega)).mono ?_
              rintro e w3 ⟨rfl, rfl⟩
              have hm := within_bd at_ 0 ((k : Int) - 1) (by omega)
              generalize within at_ 0 ((k : Int) - 1) = mi at *
              obtain ⟨m, rfl⟩ : ∃ m : Nat, mi = (m : Int) := ⟨mi.toNat, by omega⟩
              have hfz := hR.frozen m
              have hc := hR.cell m (by simp; omega)
              go_wp2_with fail
              go_meet
              have hR2 := hR.set m bad
              refine ⟨m, (List.map fb (List.take k bs)).set m bad, rfl, by omega, ?_, hE2.setCell (by simpa using hpg) _, ?_⟩
              · have := hR2.bs
                have hl : ((List.map fb (List.take k bs)).set m bad).length = k := by simp; omega
                rw [hl] at this
                exact this
              · intro i h
                refine ⟨if i = m then bad else fb (bs[i]'(Nat.lt_of_lt_of_le h hkb)), ?_, ?_, ?_⟩
                · rw [List.getElem?_set]
                  by_cases him : i = m
                  · subst him
                    rw [if_pos rfl, if_pos rfl, if_pos (by simp; omega)]
                  · rw [if_neg (fun h => him h.symm), if_neg him]
                    rw [List.getElem?_map, List.getElem?_take, if_pos h, List.getElem?_eq_getElem (by omega)]; rfl
                · intro h2; rw [if_neg (by omega)]
                · intro h2; rw [if_pos h2]; exact hbad
          case rest =>
            obtain ⟨m, ys, rfl, hm, hBy, hEx, hys⟩ := hcut
            have hyl : ys.length = k := hBy.1
            clear hkk HG hB hE2 hE
            go_wp2_with fail
            refine (rnew_any a1 k cap1 ys _ hBy (by unfold big; omega)).mono ?_
            rintro e w4 ⟨q, rb, rfl, hR, hb4⟩
            have hE4 := hEx.step hb4
            have hR0 : Rd w4 p q rb ys 0 := by
              obtain ⟨z0, a, cap, z1, z2, z3, z4, z5⟩ := hR
              have := hEx.2
              exact ⟨by omega, a, cap, z1, z2, z3, z4, fun k hk => Nat.le_trans this (z5 k hk)⟩
            clear hR hBy hEx hb4
            go_wp2_with fail
            go_loopw [13] (fun i wr => ∃ j : Nat, j ≤ k ∧ i = .int .i64 j ∧ Ext p w wr ∧ ∃ s, Rd wr p q rb s.1 s.2 ∧ s.1.length ≤ k ∧ (j ≤ m → s = (ys.drop j, 0)) ∧ (m < j → s.2 = 12)) (fun i _ => k - (intOf i).toNat)
            case atStart => exact ⟨0, by omega, rfl, hE4, (ys, 0), hR0, by simp; omega, fun _ => by simp, fun h => by omega⟩
            case round =>
              obtain ⟨j, hj, rfl, hE, s, hRd, hsl, hs1, hs2⟩ := hrel
              by_cases hlt : j < k
              · obtain ⟨ha0, hba, hca⟩ := HA.out (by omega)
                subst ha0
                have hc := (hE.1.cell (p := ⟨ba, oa + j, none⟩) hba).trans (hca j (by omega))
                have key : (rdFlag s).1 = (decide (j < m) && (bs[j]'(Nat.lt_of_lt_of_le hlt hkb))) ∧ (((rdEnd (rdFlag s).2 : Nat) : Int) == 12) = decide (m ≤ j) ∧ (rdFlag s).2.1.length ≤ k ∧ (j + 1 ≤ m → (rdFlag s).2 = (ys.drop (j + 1), 0)) ∧ (m < j + 1 → (rdFlag s).2.2 = 12) := by
                  obtain ⟨y, hy, hy1, hy2⟩ := hys j hlt
                  have hd : ys.drop j = y :: ys.drop (j + 1) := by
                    rw [List.getElem?_eq_some_iff] at hy
                    obtain ⟨h1, h2⟩ := hy
                    rw [← h2]; exact List.drop_eq_getElem_cons h1
                  have hdl : (ys.drop (j + 1)).length ≤ k := by rw [List.length_drop]; omega
                  rcases Nat.lt_trichotomy j m with h | h | h
                  · rw [hs1 (by omega), hd, hy1 h, rdFlag_ok]
                    refine ⟨by simp [h], ?_, hdl, fun _ => rfl, fun h' => by omega⟩
                    rw [decide_eq_false (by omega), beq_eq_false_iff_ne]
                    unfold rdEnd
                    simp only
                    split <;> simp
                  · rw [hs1 (by omega), hd, rdFlag_bad _ _ (hy2 h)]
                    exact ⟨by simp [h], by rw [decide_eq_true (by omega)]; simp [rdEnd], hdl, fun h' => by omega, fun _ => rfl⟩
                  · have h12 := hs2 (by omega)
                    rw [show s = (s.1, s.2) from rfl, h12, rdFlag_err _ _ (by omega)]
                    exact ⟨by simp; omega, by rw [decide_eq_true (by omega)]; simp [rdEnd], hsl, fun h' => by omega, fun _ => rfl⟩
                have HC := Lib.hid (rflag_any p q rb s wr hRd (by unfold big; omega))
                obtain ⟨k1, k2, k3, k4, k5⟩ := key
                generalize (rdFlag s).1 = f at *
                generalize (rdFlag s).2 = t at *
                subst k1
                clear hca hs1 hs2 hsl hys
                go_wp2_with fail
                refine HC.out.mono ?_
                rintro e w5 ⟨rfl, hP⟩
                have hE5 : Ext p w w5 := hE.to (hP.2.below (Nat.le_of_lt hRd.lt |> fun _ => hE.2) (fun k _ hk => by subst hk; exact hP.1.1))
                have hc5 := (hE5.1.cell (p := ⟨ba, oa + j, none⟩) hba).trans ((hE.1.cell (p := ⟨ba, oa + j, none⟩) hba).symm.trans hc)
                have HE := Lib.hid (rend_any p q rb t w5 hP.1)
                by_cases hjm : j < m
                · have g2 : decide (m ≤ j) = false := decide_eq_false (by omega)
                  have g3 : decide ((m : Int) ≤ (j : Int)) = false := decide_eq_false (by omega)
                  have g1 : decide (j < m) = true := decide_eq_true hjm
                  rw [g1, Bool.true_and]
                  rw [g2] at k2
                  generalize bs[j]'(Nat.lt_of_lt_of_le hlt hkb) = bj at *
                  generalize rdEnd t = en at *
                  go_wp2_with fail
                  refine HE.out.mono ?_
                  rintro e w6 ⟨rfl, rfl⟩
                  go_wp2_with fail
                  go_roundw
                  case rel => exact ⟨j + 1, by omega, by go_num, hE5, t, hP.1, k3, k4, k5⟩
                  case measure => simp [intOf]; omega
                · have g2 : decide (m ≤ j) = true := decide_eq_true (by omega)
                  have g3 : decide ((m : Int) ≤ (j : Int)) = true := decide_eq_true (by omega)
                  have g1 : decide (j < m) = false := decide_eq_false hjm
                  rw [g1, Bool.false_and]
                  rw [g2] at k2
                  generalize rdEnd t = en at *
                  go_wp2_with fail
                  refine HE.out.mono ?_
                  rintro e w6 ⟨rfl, rfl⟩
                  go_wp2_with fail
                  go_roundw
                  case rel => exact ⟨j + 1, by omega, by go_num, hE5, t, hP.1, k3, k4, k5⟩
                  case measure => simp [intOf]; omega
              · obtain rfl : j = k := by omega
                go_wp2_with fail
                refine (codec_known _).mono ?_
                rintro e w5 ⟨rfl, hb⟩
                go_wp2_with fail
                go_ret
                exact ⟨rfl, by have := (hE.step hb).1; rw [HP.out] at this; exact this⟩
end Go.Proofs.Ytmedamofmlkccaa
