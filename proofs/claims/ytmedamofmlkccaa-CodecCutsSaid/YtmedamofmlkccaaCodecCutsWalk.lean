/- The walk of permafrostlaw4.CodecCuts. -/
import Derived.Test.YtmedamofmlkccaaCodecKnown
import Derived.Test.YtmedamofmlkccaaCodecLaw
import Derived.Test.YtmedamofmlkccaaWithin
import Derived.Test.YtmedamofmlkccaaParts
import Derived.Deep.DeepCutAuto
import Derived.Deep.RegionHeld3
namespace Go.Proofs.Ytmedamofmlkccaa
open Go.RowKit

theorem Ext.next {p q : Nat} {rb : Option Nat} {w wr w' : World} {s : List UInt8 × Nat} (hE : Ext p w wr) (hP : RPost wr p q rb s w') : Ext p w w' ∧ Rd w' p q rb s.1 s.2 :=
  ⟨hE.to (hP.2.below hE.2 (fun _ _ hk => by subst hk; exact hP.1.1)), hP.1⟩
theorem own_none {w : World} {B : Nat} {v : Value} (h : Own w B v []) : ∃ a cap, v = .slice a 0 cap ∧ 0 ≤ cap := by
  obtain ⟨a, cap, rfl, _⟩ := h.bsn (n := 0) rfl
  exact ⟨a, cap, rfl, Nat.zero_le _⟩
theorem Parts.at {w : World} {a : Option Addr} {len cap : Nat} {ps : List Pt} (h : Parts w a len cap ps) :
    ∃ b off, Hid (0 < len → a = some ⟨b, off, none⟩ ∧ b < w.heap.size ∧ ∀ i (h : i < ps.length), ps[i].In w b (off + i * 3)) := by
  rcases h.2.2.2 with h | ⟨b, off, h1, h2, h3⟩
  · exact ⟨0, 0, Lib.hid fun h' => by omega⟩
  · exact ⟨b, off, Lib.hid fun _ => ⟨h1, h2, h3⟩⟩

/-- the longs of the first parts -/
def longs (ps : List Pt) : List UInt8 := (ps.map fun p => be p.n 8).flatten
theorem longs_snoc (ps : List Pt) (p : Pt) : longs (ps ++ [p]) = longs ps ++ be p.n 8 := by simp [longs]
theorem longs_length (ps : List Pt) : (longs ps).length = 8 * ps.length := by
  induction ps with
  | nil => rfl
  | cons p ps ih => simp only [longs, List.map_cons, List.flatten_cons, List.length_append, List.length_cons, be_length] at *; omega
theorem longs_take (ps : List Pt) (k : Nat) (h : k < ps.length) : longs (ps.take (k + 1)) = longs (ps.take k) ++ be ps[k].n 8 := by
  rw [List.take_succ_eq_append_getElem h, longs_snoc]
theorem longs_drop (ps : List Pt) (k : Nat) (h : k < ps.length) : (longs ps).drop (8 * k) = be ps[k].n 8 ++ (longs ps).drop (8 * (k + 1)) := by
  induction ps generalizing k with
  | nil => simp at h
  | cons p ps ih =>
    have hb := be_length p.n 8
    have hl : longs (p :: ps) = be p.n 8 ++ longs ps := rfl
    rw [hl]
    cases k with
    | zero => rw [List.drop_append]; simp [hb]
    | succ k =>
      have hx : ∀ m, (be p.n 8 ++ longs ps).drop (8 * (m + 1)) = (longs ps).drop (8 * m) := fun m => by
        rw [List.drop_append, List.drop_eq_nil_of_le (by omega), hb, List.nil_append]
        congr 1
      rw [hx, hx]
      exact ih k (by simpa using h)
theorem longs_cut (ps : List Pt) (k j : Nat) (h : j < ps.length) (hk : 8 * (j + 1) ≤ k) : ((longs ps).take k).drop (8 * j) = be ps[j].n 8 ++ ((longs ps).take k).drop (8 * (j + 1)) := by
  have hb := be_length ps[j].n 8
  rw [List.drop_take, longs_drop ps j h, List.take_append, hb, List.take_of_length_le (by omega), List.drop_take]
  congr 2

set_option maxRecDepth 100000 in
theorem CodecCuts_walk (v0 : Value) (v1 : Value) (v2 : Value) (w : World) (h0 : Arg Try.prog w 35 v0) (h1 : Arg Try.prog w 3 v1) (h2 : Arg Try.prog w 35 v2) :
    Calls Try.prog 4 #[v0, v1, v2] w fun e w' => e = .returned (.bool true) ∧ Below w.heap.size w w' := by
  obtain ⟨a0, len0, cap0, ps, rfl, hA⟩ := h0.parts
  obtain ⟨ct, rfl, _⟩ := h1.int Try.underlying3
  obtain ⟨a2, len2, cap2, qs, rfl, hC⟩ := h2.parts
  obtain rfl := hA.1
  obtain rfl := hC.1
  have hlc := hA.2.1
  have hlc2 := hC.2.1
  clear h0 h1 h2
  obtain ⟨ba, oa, HA⟩ := hA.at
  obtain ⟨bc, oc, HC⟩ := hC.at
  clear hA hC
  go_enter Try.func4, Try.ntmps4
  go_wp2_with fail
  refine (wnew_any _).mono ?_
  rintro e w1 ⟨rfl, hW1, hb1⟩
  have hE1 := (Ext.refl w).step hb1
  obtain ⟨p, hp⟩ : ∃ p, p = w.heap.size := ⟨_, rfl⟩
  rw [← hp] at hW1 hE1 HA HC ⊢
  have HP := Lib.hid hp
  clear hp hb1
  obtain ⟨n, hn⟩ : ∃ n, n = min ps.length 15 := ⟨_, rfl⟩
  have hn1 : n ≤ ps.length := by omega
  have hn2 : n ≤ 15 := by omega
  have hn3 : n < 15 → n = ps.length := by omega
  clear hn
  go_wp2_with fail
  go_loopw [8] (fun i wr => ∃ k : Nat, k ≤ n ∧ i = .int .i64 k ∧ Ext p w wr ∧ ∃ g, Wr wr p p g (longs (ps.take k))) (fun i _ => n - (intOf i).toNat)
  case atStart => exact ⟨0, by omega, rfl, hE1, none, by simpa [longs] using hW1⟩
  case round =>
    obtain ⟨k, hk, rfl, hE, g, hW⟩ := hrel
    go_upto_region 5 with fail
    go_cut [24] (fun s wx => s = .bool (decide (k < n)) ∧ wr = wx)
    case first =>
      by_cases h1 : k < ps.length
      · by_cases h2 : k < 15
        · go_wp2_with fail
          go_meet
          exact ⟨congrArg Value.bool (by rw [decide_eq_decide]; omega), rfl⟩
        · go_wp2_with fail
          go_meet
          exact ⟨congrArg Value.bool (by rw [decide_eq_decide]; omega), rfl⟩
      · go_wp2_with fail
        go_meet
        exact ⟨by rw [decide_eq_false (show ¬ k < n by omega)], rfl⟩
    case rest =>
      obtain ⟨rfl, rfl⟩ := hcut
      by_cases hlt : k < n
      · obtain ⟨ha0, hba, hca⟩ := HA.out (by omega)
        subst ha0
        obtain ⟨_, _, hc, hn64, _⟩ := hca k (by omega)
        have hc := (hE.1.cell (p := ⟨ba, oa + k * 3 + 1, none⟩) hba).trans hc
        have HT := Lib.hid (longs_take ps k (by omega))
        have hd := decide_eq_true hlt
        clear hca
        go_wp2_with fail
        refine (wlong_any p p ps[k].n g _ _ hW (by rw [longs_length, List.length_take]; unfold big; omega)).mono ?_
        rintro e w2 ⟨rfl, g2, hW2, hC2, hg2⟩
        go_wp2_with fail
        go_roundw
        case rel => exact ⟨k + 1, by omega, by go_num, hE.to (hW.belowOf hC2), g2, by rw [HT.out]; exact hW2⟩
        case measure => simp [intOf]; omega
      · obtain rfl : k = n := by omega
        have hd := decide_eq_false hlt
        clear hlt hn3
        go_wp2_with fail
        refine (wdone_any p p g _ _ hW (by rw [longs_length, List.length_take]; unfold big; omega)).mono ?_
        rintro e w2 ⟨v, rfl, ho, hb2⟩
        have hll : (longs (ps.take k)).length = 8 * k := by rw [longs_length, List.length_take]; omega
        obtain ⟨a1, cap1, rfl, hB⟩ := ho.bsn hll
        have hE2 := hE.step hb2
        have hcap1 := hB.2.1
        clear ho hb2 hW
        by_cases h0 : k = 0
        · subst h0
          go_wp2_with fail
          refine (codec_known _).mono ?_
          rintro e w5 ⟨rfl, hb⟩
          go_wp2_with fail
          go_ret
          exact ⟨rfl, by have := (hE2.step hb).1; rw [HP.out] at this; exact this⟩
        · have hk0 : (((8 * k : Nat) : Int) == 0) = false := by rw [beq_eq_false_iff_ne]; omega
          go_wp2_with fail
          refine (within_any ct 0 (((8 * k : Nat) : Int) - 1) _ (by omega) (by omega) (by omega)).mono ?_
          rintro e w3 ⟨rfl, rfl⟩
          have hm := within_bd ct 0 (((8 * k : Nat) : Int) - 1) (by omega)
          generalize within ct 0 (((8 * k : Nat) : Int) - 1) = mi at *
          obtain ⟨m, rfl⟩ : ∃ m : Nat, mi = (m : Int) := ⟨mi.toNat, by omega⟩
          go_wp2_with fail
          have hX : ∀ j (h : 8 * (j + 1) ≤ m), ((longs (ps.take k)).take m).drop (8 * j) = be (ps[j]'(by omega)).n 8 ++ ((longs (ps.take k)).take m).drop (8 * (j + 1)) := fun j h => by
            rw [longs_cut (ps.take k) m j (by rw [List.length_take]; omega) h, List.getElem_take]
          have hBm := hB.take (k := m) (by omega)
          generalize (longs (ps.take k)).take m = X at *
          have hXl := hBm.1
          refine (rnew_any a1 m cap1 X _ hBm (by unfold big; omega)).mono ?_
          rintro e w4 ⟨q, rb, rfl, hR, hb4⟩
          have hE4 := hE2.step hb4
          have hR0 : Rd w4 p q rb X 0 := by
            obtain ⟨z0, a, cap, z1, z2, z3, z4, z5⟩ := hR
            have := hE2.2
            exact ⟨by omega, a, cap, z1, z2, z3, z4, fun k hk => Nat.le_trans this (z5 k hk)⟩
          have hq4 : (((m : Nat) : Int).tdiv 8) = ((m / 8 : Nat) : Int) := by rw [Int.tdiv_eq_ediv_of_nonneg (by omega)]; omega
          clear hR hB hBm hE2 hb4
          go_wp2_with fail
          go_loopw [12] (fun i wr => ∃ j : Nat, 8 * j ≤ m ∧ i = .int .i64 j ∧ Ext p w wr ∧ Rd wr p q rb (X.drop (8 * j)) 0) (fun i _ => m - (intOf i).toNat)
          case atStart => exact ⟨0, by omega, rfl, hE4, hR0⟩
          case round =>
            obtain ⟨j, hj, rfl, hE, hRd⟩ := hrel
            by_cases hlt : 8 * (j + 1) ≤ m
            · obtain ⟨ha0, hba, hca⟩ := HA.out (by omega)
              subst ha0
              obtain ⟨_, _, hc, hn64, _⟩ := hca j (by omega)
              have HC1 := Lib.hid (show _ ∧ _ from ⟨hE.drew, hc⟩)
              have hj0 : (0 : Int) ≤ (j : Int) := by omega
              have hj1 : (j : Int) < (ps.length : Int) := by omega
              have hc := (hE.1.cell (p := ⟨ba, oa + j * 3 + 1, none⟩) hba).trans hc
              have HL := Lib.hid (rlong_any p q rb (X.drop (8 * j), 0) wr.drew (hRd.below (Below.refl _ _).drew) (by simp; unfold big; omega))
              rw [hX j hlt, rdLong_be _ _ hn64] at HL
              simp only at HL
              have hlq : (j : Int) < ((m / 8 : Nat) : Int) := by omega
              clear hca hX
              go_wp2_with fail
              go_region_held3 (fun w' => w'.cell? ⟨ba, oa + j * 3 + 1, none⟩ = some (.int .u64 (ps[j].n : Int))) (go_keep)
                ((go_at_call 24; refine HL.out.mono ?_; rintro e w5 ⟨rfl, hP⟩; have hE5 : Ext p w w5 := HC1.out.1.to (hP.2.below HC1.out.1.2 (fun k _ hk => by subst hk; exact hP.1.1)); have hc5 := (hE5.1.cell (p := ⟨ba, oa + j * 3 + 1, none⟩) hba).trans HC1.out.2))
              go_wp2_with fail
              go_roundw
              case rel => exact ⟨j + 1, by omega, by go_num, hE5, hP.1⟩
              case measure => simp [intOf]; omega
            · have hlq : ¬ (j : Int) < ((m / 8 : Nat) : Int) := by omega
              have hr8 : (X.drop (8 * j)).length < 8 := by rw [List.length_drop]; omega
              have HL := Lib.hid (rlong_any p q rb (X.drop (8 * j), 0) wr hRd (by simp; unfold big; omega))
              rw [rdLong_few _ hr8] at HL
              simp only at HL
              have HX := Lib.hid hr8
              clear hX hr8 hj
              generalize X.drop (8 * j) = R at *
              go_wp2_with fail
              refine HL.out.mono ?_
              rintro e w5 ⟨rfl, hP⟩
              have hE5 : Ext p w w5 := hE.to (hP.2.below hE.2 (fun k _ hk => by subst hk; exact hP.1.1))
              have hRd5 := hP.1
              simp only at hRd5
              clear hP hRd
              go_wp2_with fail
              refine (rend_any p q rb (R, 10) w5 hRd5).mono ?_
              rintro e w6 ⟨rfl, rfl⟩
              have he1 : rdEnd (R, 10) = 10 := by simp [rdEnd]
              rw [he1]
              go_wp2_with fail
              refine (rleft_any p q rb (R, 10) w5 hRd5).mono ?_
              rintro e w6 ⟨rfl, rfl⟩
              have he2 : rdLeft (R, 10) = 0 := by simp [rdLeft]
              rw [he2]
              go_wp2_with fail
              go_loopw [13] (fun i wr => ∃ j : Nat, j ≤ qs.length ∧ i = .int .i64 j ∧ Ext p w wr ∧ Rd wr p q rb R 10) (fun i _ => qs.length - (intOf i).toNat)
              case atStart => exact ⟨0, by omega, rfl, hE5, hRd5⟩
              case round =>
                obtain ⟨j, hj, rfl, hE, hRd⟩ := hrel
                go_upto_region 23 with fail
                go_cut [85] (fun s wx => s = .bool (decide (j < qs.length ∧ j < 10)) ∧ wr = wx)
                case first =>
                  by_cases h1 : j < qs.length
                  · by_cases h2 : j < 10
                    · go_wp2_with fail
                      go_meet
                      exact ⟨congrArg Value.bool (by rw [decide_eq_decide]; omega), rfl⟩
                    · go_wp2_with fail
                      go_meet
                      exact ⟨congrArg Value.bool (by rw [decide_eq_decide]; omega), rfl⟩
                  · go_wp2_with fail
                    go_meet
                    exact ⟨by rw [decide_eq_false (show ¬ (j < qs.length ∧ j < 10) by omega)], rfl⟩
                case rest =>
                  obtain ⟨rfl, rfl⟩ := hcut
                  have hR : R.length ≤ big := by have := HX.out; unfold big; omega
                  have HR := Lib.hid hR
                  clear hR
                  by_cases hlt : j < qs.length ∧ j < 10
                  · have hd := decide_eq_true hlt
                    obtain ⟨hl1, hl2⟩ := hlt
                    have hq := HC.out (by omega)
                    obtain ⟨ha0, hba, hca⟩ := hq
                    subst ha0
                    obtain ⟨_, _, hc0, hn64, _⟩ := hca j (by omega)
                    have HN := Lib.hid hn64
                    clear hca hn64
                    generalize qs[j].n = qn at *
                    go_wp2_with fail
                    refine (rbyte_any p q rb (R, 10) _ hRd HR.out).mono ?_
                    rw [rdByte_errs _ _ (by omega)]
                    rintro e w7 ⟨rfl, hP⟩
                    obtain ⟨hE7, hR7⟩ := hE.next hP
                    clear hP hE hRd
                    go_wp2_with fail
                    refine (rshort_any p q rb (R, 10) _ hR7 HR.out).mono ?_
                    rw [rdShort_errs _ _ (by omega)]
                    rintro e w8 ⟨rfl, hP⟩
                    obtain ⟨hE8, hR8⟩ := hE7.next hP
                    clear hP hE7 hR7
                    go_wp2_with fail
                    refine (rlong_any p q rb (R, 10) _ hR8 HR.out).mono ?_
                    rw [rdLong_errs _ _ (by omega)]
                    rintro e w9 ⟨rfl, hP⟩
                    obtain ⟨hE9, hR9⟩ := hE8.next hP
                    clear hP hE8 hR8
                    go_wp2_with fail
                    refine (rflag_any p q rb (R, 10) _ hR9 HR.out).mono ?_
                    rw [rdFlag_errs _ _ (by omega)]
                    rintro e w10 ⟨rfl, hP⟩
                    obtain ⟨hE10, hR10⟩ := hE9.next hP
                    clear hP hE9 hR9
                    go_wp2_with fail
                    refine (rbytes_any p q rb (R, 10) _ hR10 HR.out).mono ?_
                    rw [rdBytes_errs _ _ (by omega)]
                    rintro e w11 ⟨v, rfl, ho, hP⟩
                    obtain ⟨av, cv, rfl, _⟩ := own_none ho
                    obtain ⟨hE11, hR11⟩ := hE10.next hP
                    have hc := (hE11.1.cell (p := ⟨bc, oc + j * 3 + 1, none⟩) hba).trans hc0
                    clear hP hE10 hR10 ho
                    go_wp2_with fail
                    refine (rraw_any p q rb R 10 _ _ hR11 HR.out).mono ?_
                    rw [rdRaw_errs _ _ _ (by omega)]
                    rintro e w12 ⟨v, rfl, ho, hP⟩
                    obtain ⟨av2, cv2, rfl, _⟩ := own_none ho
                    obtain ⟨hE12, hR12⟩ := hE11.next hP
                    clear hP hE11 hR11 ho
                    go_wp2_with fail
                    refine (rend_any p q rb (R, 10) w12 hR12).mono ?_
                    rintro e w13 ⟨rfl, rfl⟩
                    rw [he1]
                    go_wp2_with fail
                    go_roundw
                    case rel => exact ⟨j + 1, by omega, by go_num, hE12, hR12⟩
                    case measure => simp [intOf]; omega
                  · have hd := decide_eq_false hlt
                    go_wp2_with fail
                    refine (codec_known _).mono ?_
                    rintro e w7 ⟨rfl, hb⟩
                    go_wp2_with fail
                    go_ret
                    exact ⟨rfl, by have := (hE.step hb).1; rw [HP.out] at this; exact this⟩
end Go.Proofs.Ytmedamofmlkccaa
