/- The contract of record.Decode, behind its first refusal. -/
import Derived.Test.YtmjlndfkddacbaaRecordDec
import Derived.Deep.DeepCutAuto
import Derived.Deep.RegionWith
namespace Go.Proofs.Ytmjlndfkddacbaa
open Go.RowKit

theorem strOf_ne (xs ys : List UInt8) : (!(strOf xs).toList == (strOf ys).toList) = decide (xs ≠ ys) := by
  rw [strOf_toList, strOf_toList, Bool.eq_iff_iff]
  simp
/-- what Decode answers -/
def RecPost (xs : List UInt8) (B : Nat) (e : Ending) (w' : World) : Prop :=
  (recWhy xs = 0 ∧ ∃ v, e = .returned (recV ((rdK xs).1 : Nat) (rdQ xs).1 v ((rdE xs : Int) + 4) 0) ∧ Own w' B v (rdB xs).1) ∨
  (recWhy xs ≠ 0 ∧ e = .returned (recV 0 0 (.slice none 0 0) 0 (recWhy xs)))
set_option maxHeartbeats 1000000 in
set_option maxRecDepth 100000 in
theorem recdec_rest0 (a : Option Addr) (len cap : Nat) (xs : List UInt8) (w : World) (h : Bs w a len cap xs) (hl : len ≤ big) (hb : badHead xs = false) :
    Calls Try.prog 20 #[.slice a len cap] w fun e w' => RecPost xs w.heap.size e w' ∧ Below w.heap.size w w' := by
  have hlen := h.1
  obtain ⟨H, hH⟩ : ∃ H, H = w.heap.size := ⟨_, rfl⟩
  have hsz := size_alloc w (.cells #[.int .i64 0, .int .u64 0, .slice none 0 0] 27)
  have hE0 := (Ext.refl w).alloc (.cells #[.int .i64 0, .int .u64 0, .slice none 0 0] 27)
  have h' := h.alloc (.cells #[.int .i64 0, .int .u64 0, .slice none 0 0] 27)
  have C0 := cell_new w #[.int .i64 0, .int .u64 0, .slice none 0 0] 27 0
  have C1 := cell_new w #[.int .i64 0, .int .u64 0, .slice none 0 0] 27 1
  have C2 := cell_new w #[.int .i64 0, .int .u64 0, .slice none 0 0] 27 2
  have F0 := frozen_new w #[.int .i64 0, .int .u64 0, .slice none 0 0] 27 0
  have F1 := frozen_new w #[.int .i64 0, .int .u64 0, .slice none 0 0] 27 1
  have F2 := frozen_new w #[.int .i64 0, .int .u64 0, .slice none 0 0] 27 2
  simp only [List.getElem?_toArray, List.getElem?_cons_zero, List.getElem?_cons_succ] at C0 C1 C2
  rw [← hH] at hE0 hsz C0 C1 C2 F0 F1 F2 ⊢
  have HC := Lib.hid (And.intro C0 (And.intro C1 C2))
  have HF := Lib.hid (And.intro F0 (And.intro F1 F2))
  have HH := Lib.hid hH
  clear C0 C1 C2 F0 F1 F2 hH
  go_enter Try.func20, Try.ntmps20
  go_upto_region 1 with fail
  rw [← HH.out]
  generalize w.alloc (.cells #[.int .i64 0, .int .u64 0, .slice none 0 0] 27) = w0 at *
  go_cut [23] (fun s wx => s = .bool false ∧ w0 = wx)
  case first =>
    match xs, hb with
    | [], _ =>
      simp only [List.length_nil] at hlen
      subst hlen
      go_wp2_with fail
      go_meet
      exact ⟨rfl, rfl⟩
    | x :: ys, hb =>
      simp only [List.length_cons] at hlen
      have hx : x = 1 ∨ x = 2 := by
        simp only [badHead, Bool.and_eq_false_iff, bne_eq_false_iff_eq] at hb; exact hb
      obtain ⟨b, off, rfl, hbl, hc⟩ : ∃ b off, a = some ⟨b, off, none⟩ ∧ b < w0.heap.size ∧ w0.cell? ⟨b, off, none⟩ = some (.int .u8 (x.toNat : Int)) := by
        rcases h'.2.2.2 with h | ⟨b, off, h1, h2, h3⟩
        · omega
        · exact ⟨b, off, h1, h2, by have := h3 0 (by simp); rw [Nat.add_zero] at this; exact this⟩
      have hl0 : (0 : Int) < (len : Int) := by omega
      clear h h' hb hlen hl
      rcases hx with rfl | rfl
      · rw [show ((1 : UInt8).toNat : Int) = 1 from rfl] at hc
        go_wp2_with fail
        go_meet
        exact ⟨rfl, rfl⟩
      · rw [show ((2 : UInt8).toNat : Int) = 2 from rfl] at hc
        go_wp2_with fail
        go_meet
        exact ⟨rfl, rfl⟩
  case rest =>
    obtain ⟨rfl, rfl⟩ := hcut
    have hWY : recWhy xs = if (rdW xs).length < 4 then 10 else if rdW xs ≠ be (crcMore 0 (xs.take (rdE xs))) 4 then 14 else if ¬ RecOk ((rdK xs).1 : Nat) (rdQ xs).1 (rdB xs).1.length then 12 else 0 := by unfold recWhy; rw [hb, if_neg (by simp)]
    have HWY := Lib.hid hWY
    clear hWY hb h
    go_wp2_with fail
    refine (rnew_any a len cap xs w0 h' hl).mono ?_
    rintro e w1 ⟨q, rb, rfl, hR, hb1⟩
    have hE1 := (Ext.refl w0).step hb1
    have hb0 : xs.length ≤ big := by omega
    have l1 : (rdK xs).2.1.length ≤ big := Nat.le_trans (rdRaw_left (xs, 0) 1) hb0
    have l2 : (rdQ xs).2.1.length ≤ big := Nat.le_trans (rdRaw_left (rdK xs).2 8) l1
    have l3 : (rdB xs).2.1.length ≤ (rdQ xs).2.1.length := Nat.le_trans (rdRaw_left _ _) (rdRaw_left (rdQ xs).2 2)
    have l4 : (rdB xs).2.1.length ≤ big := Nat.le_trans l3 l2
    have hle : rdLeft (rdB xs).2 ≤ xs.length := by
      unfold rdLeft
      split
      · omega
      · exact Nat.le_trans l3 (Nat.le_trans (rdRaw_left (rdK xs).2 8) (rdRaw_left (xs, 0) 1))
    have HE := Lib.hid (show rdE xs = xs.length - rdLeft (rdB xs).2 from rfl)
    have HW := Lib.hid (show rdW xs = (rdRaw (rdB xs).2 4).1 from rfl)
    have hWl : (rdRaw (rdB xs).2 4).1.length ≤ 4 := rdRaw_len (rdB xs).2 4
    have hC1 := Lib.hid (rbyte_any w0.heap.size q rb (xs, 0) w1 hR hb0)
    change Hid (Calls _ _ _ _ (fun e w' => e = .returned (.int .i64 ((rdK xs).1 : Nat)) ∧ RPost w1 w0.heap.size q rb (rdK xs).2 w')) at hC1
    have hC2 := Lib.hid (fun w h => rlong_any w0.heap.size q rb (rdK xs).2 w h l1)
    change Hid (∀ w, _ → Calls _ _ _ _ (fun e w' => e = .returned (.int .u64 ((rdQ xs).1 : Nat)) ∧ RPost w w0.heap.size q rb (rdQ xs).2 w')) at hC2
    have hC3 := Lib.hid (fun w h => rbytes_any w0.heap.size q rb (rdQ xs).2 w h l2)
    change Hid (∀ w, _ → Calls _ _ _ _ (fun e w' => ∃ v, e = .returned v ∧ Own w' w.heap.size v (rdB xs).1 ∧ RPost w w0.heap.size q rb (rdB xs).2 w')) at hC3
    have hkb : (rdK xs).1 < 256 := rdByte_lt _
    have hqb : (rdQ xs).1 < 18446744073709551616 := rdLong_lt _
    generalize hkE : (rdK xs).1 = k at *
    generalize (rdK xs).2 = s1 at *
    generalize hqE : (rdQ xs).1 = sq at *
    generalize (rdQ xs).2 = s2 at *
    generalize hbo : (rdB xs).1 = bo at *
    generalize (rdB xs).2 = s3 at *
    have HKQ := Lib.hid (And.intro hkE (And.intro hqE hbo))
    clear hbo hkE hqE
    go_wp2_with fail
    refine hC1.out.mono ?_
    rintro e w2 ⟨rfl, hP⟩
    obtain ⟨hE2, hR2⟩ := hE1.next hP
    clear hP hE1 hR hC1
    go_wp2_with fail
    refine (hC2.out _ hR2).mono ?_
    rintro e w3 ⟨rfl, hP⟩
    obtain ⟨hE3, hR3⟩ := hE2.next hP
    clear hP hE2 hR2 hC2
    go_wp2_with fail
    refine (hC3.out _ hR3).mono ?_
    rintro e w4 ⟨v, rfl, ho, hP⟩
    obtain ⟨hE4, hR4⟩ := hE3.next hP
    have hob : ∀ k, v.ownBlock = some k → k ≠ q := by
      intro k hk e
      have := hR3.lt
      rcases ho.parts with ⟨h1, _⟩ | ⟨g, c, h1, h2, h3⟩
      · rw [h1] at hk; simp [Value.ownBlock] at hk
      · rw [h1] at hk; simp [Value.ownBlock] at hk; omega
    have ho := ho.base hE3.2
    clear hP hE3 hR3 hC3
    obtain ⟨av, cv, rfl, hBv⟩ := ho.bs
    have d0 := cell_new w4 #[.int .i64 (k : Int), .int .u64 (sq : Int), .slice av bo.length cv] 27 0
    have d1 := cell_new w4 #[.int .i64 (k : Int), .int .u64 (sq : Int), .slice av bo.length cv] 27 1
    have d2 := cell_new w4 #[.int .i64 (k : Int), .int .u64 (sq : Int), .slice av bo.length cv] 27 2
    have hE5 := hE4.alloc (.cells #[.int .i64 (k : Int), .int .u64 (sq : Int), .slice av bo.length cv] 27)
    have hR5 := hR4.below ((Below.refl _ _).alloc (Nat.le_refl _) (.cells #[.int .i64 (k : Int), .int .u64 (sq : Int), .slice av bo.length cv] 27))
    have ho5 := ho.alloc (.cells #[.int .i64 (k : Int), .int .u64 (sq : Int), .slice av bo.length cv] 27)
    have hsz5 := size_alloc w4 (.cells #[.int .i64 (k : Int), .int .u64 (sq : Int), .slice av bo.length cv] 27)
    have hp5 : w0.heap.size ≤ w4.heap.size := hE4.2
    obtain ⟨Z, hZ⟩ : ∃ Z, Z = w4.heap.size := ⟨_, rfl⟩
    simp only [List.getElem?_toArray, List.getElem?_cons_zero, List.getElem?_cons_succ] at d0 d1 d2
    have hqz := hR4.lt
    rw [← hZ] at d0 d1 d2 hsz5 hp5 hqz
    have HZ := Lib.hid hZ
    clear hZ hE4 hR4 ho hBv
    go_upto_region 5 with fail
    rw [← HZ.out]
    generalize w4.alloc (.cells #[.int .i64 (k : Int), .int .u64 (sq : Int), .slice av bo.length cv] 27) = w5 at *
    have hRL := rleft_any w0.heap.size q rb s3 w5 hR5
    have hsub : IntKind.i64.wrap ((len : Int) - (rdLeft s3 : Int)) = ((rdE xs : Nat) : Int) := by rw [HE.out, hlen, IntWalk.i64_in _ (by unfold big at hl; omega)]; omega
    have hEle : rdE xs ≤ len := by rw [HE.out]; omega
    generalize henE : rdE xs = en at *
    have HEN := Lib.hid henE
    clear henE
    generalize rdLeft s3 = lf at *
    go_wp2_with fail
    refine hRL.mono ?_
    rintro e w6 ⟨rfl, rfl⟩
    clear hRL
    go_wp2_with fail
    refine (rraw_any w0.heap.size q rb s3.1 s3.2 4 _ hR5 l4).mono ?_
    rintro e w6 ⟨v, rfl, hoW, hP⟩
    obtain ⟨hE6, hR6⟩ := hE5.next hP
    have hqZ : q < Z := by have := hR5.lt; have := hP.2; have := hqz; omega
    have d0 := (hP.2.cell hsz5 (by omega)).trans d0
    have d1 := (hP.2.cell hsz5 (by omega)).trans d1
    have d2 := (hP.2.cell hsz5 (by omega)).trans d2
    have hZ6 : Z < w6.heap.size := Nat.lt_of_lt_of_le hsz5 hP.2.size
    have hoB : Own w6 w0.heap.size (.slice av bo.length cv) bo := hP.2.own ho5 (fun k hk => by have := hob k hk; omega)
    obtain ⟨aw, cw, rfl, hBW⟩ := hoW.bs
    have hB6 : Bs w6 a len cap xs := h'.below hE6.1
    have HWR := Lib.hid (show rdW xs = (rdRaw s3 4).1 from HW.out)
    clear hP hR6 hR5 hE5 hoW ho5 HW hsub
    generalize (rdRaw s3 4).1 = W at *
    obtain ⟨C0, C1, C2⟩ := HC.out
    obtain ⟨F0, F1, F2⟩ := HF.out
    have c0 := hE6.cel hsz C0
    have c1 := hE6.cel hsz C1
    have c2 := hE6.cel hsz C2
    have f0 := hE6.frz hsz F0
    have f1 := hE6.frz hsz F1
    have f2 := hE6.frz hsz F2
    clear C0 C1 C2 F0 F1 F2
    have hEw := hE0.to (hE6.1.mono (Nat.le_of_lt hsz))
    by_cases hw4 : W.length < 4
    · have hRW := HWY.out
      rw [HWR.out, if_pos hw4] at hRW
      have HRW := Lib.hid hRW
      clear hRW
      go_wp2_with fail
      refine bodyPost_ret (v := recV 0 0 (.slice none 0 0) 0 10) (by simp [results, Try.results20, go_sem, recV, c0, c1, c2]) rfl ⟨.inr ⟨by rw [HRW.out]; decide, by rw [HRW.out]; rfl⟩, ?_⟩
      exact (((hEw.setCell (Nat.le_refl _) _).setCell (Nat.le_refl _) _).setCell (Nat.le_refl _) _).1
    · have hw4 : W.length = 4 := by omega
      have hBT := hB6.take (k := en) (by omega)
      have hSL : (be (crcMore 0 (xs.take en)) 4).length = 4 := be_length _ _
      have HSM := Lib.hid (fun w h => recsum_any a en cap (xs.take en) w h)
      generalize hSe : be (crcMore 0 (xs.take en)) 4 = S at *
      have HSe := Lib.hid hSe
      clear hSe
      rw [hw4] at hBW
      go_upto_region 9 with fail
      go_cut [46] (fun s wx => s = .bool (decide (W ≠ S)) ∧ Ext w6.heap.size w6 wx)
      case first =>
        have hs0 := run_string hBW.drew
        have q1 : (0 : Int) ≤ (en : Int) := by omega
        have q2 : (en : Int) ≤ (cap : Int) := by have := hB6.2.1; omega
        have q3 : en ≤ cap := by omega
        go_region_with ((go_at_call 53; refine (HSM.out _ hBT.drew).mono ?_; rintro e w9 ⟨v9, rfl, ho9, hb9⟩; obtain ⟨a9, c9, rfl, hB9⟩ := ho9.bsn hSL; have hE9 := (Ext.refl w6).drew.step hb9; have hs1 := run_string hB9; have hs2 := run_string (hBW.drew.below hb9)))
        all_goals (go_wp2_with fail; go_meet; refine ⟨congrArg Value.bool ?_, ?_⟩)
        all_goals first | exact hE9 | exact strOf_ne _ _
      case rest =>
        obtain ⟨rfl, hEc⟩ := hcut
        have D0 := Lib.hid d0
        have D1 := Lib.hid d1
        have D2 := Lib.hid d2
        have CC := Lib.hid (And.intro c0 (And.intro c1 c2))
        have FF := Lib.hid (And.intro f0 (And.intro f1 f2))
        have d0 := hEc.cel hZ6 d0
        have d1 := hEc.cel hZ6 d1
        have d2 := hEc.cel hZ6 d2
        have c0 := hEc.cel (show H < w6.heap.size by omega) c0
        have c1 := hEc.cel (show H < w6.heap.size by omega) c1
        have c2 := hEc.cel (show H < w6.heap.size by omega) c2
        have f0 := hEc.frz (show H < w6.heap.size by omega) f0
        have f1 := hEc.frz (show H < w6.heap.size by omega) f1
        have f2 := hEc.frz (show H < w6.heap.size by omega) f2
        have hEz := hEw.step hEc.1
        have hoB := hoB.below hEc.1
        have hRW := HWY.out
        rw [HWR.out, if_neg (by omega)] at hRW
        by_cases hWS : W = S
        · rw [if_neg (by simp [hWS])] at hRW
          have e1 : decide (W ≠ S) = false := by simp [hWS]
          have HR := Lib.hid (recright_any (k : Int) sq av bo.length cv)
          rw [e1]
          have HRW := Lib.hid hRW
          clear hRW hWS e1
          go_wp2_with fail
          refine (HR.out _).mono ?_
          rintro e w7 ⟨rfl, hb7⟩
          have hEd := hEc.step hb7
          have hEz := hEz.step hb7
          have hoB := hoB.below hb7
          clear d0 d1 d2 c0 c1 c2 f0 f1 f2
          have d0 := hEd.cel hZ6 D0.out
          have d1 := hEd.cel hZ6 D1.out
          have d2 := hEd.cel hZ6 D2.out
          have c0 := hEd.cel (show H < w6.heap.size by omega) CC.out.1
          have c1 := hEd.cel (show H < w6.heap.size by omega) CC.out.2.1
          have c2 := hEd.cel (show H < w6.heap.size by omega) CC.out.2.2
          have f0 := hEd.frz (show H < w6.heap.size by omega) FF.out.1
          have f1 := hEd.frz (show H < w6.heap.size by omega) FF.out.2.1
          have f2 := hEd.frz (show H < w6.heap.size by omega) FF.out.2.2
          clear D0 D1 D2 CC FF
          by_cases hok : RecOk (k : Int) sq bo.length
          · have HOK := Lib.hid (decide_eq_true hok)
            rw [HOK.out]
            have hRW := HRW.out
            rw [if_neg (fun h => h hok)] at hRW
            have HRW := Lib.hid hRW
            clear hRW hok
            have hen4 : IntKind.i64.wrap ((en : Int) + 4) = (en : Int) + 4 := IntWalk.i64_in _ (by unfold big at hl; omega)
            go_wp2_with fail
            refine bodyPost_ret (v := recV (k : Int) sq (.slice av bo.length cv) ((en : Int) + 4) 0) (by simp [results, Try.results20, go_sem, recV, c0, c1, c2]) rfl ⟨.inl ⟨by rw [HRW.out], .slice av bo.length cv, ?_, ?_⟩, ?_⟩
            · rw [HKQ.out.1, HKQ.out.2.1, HEN.out]
            · rw [HKQ.out.2.2]
              rcases hoB.parts with ⟨h1, h2⟩ | ⟨g, c, h1, h2, h3⟩
              · rw [h1, h2]; exact Own.nil _ _
              · rw [h1]; exact Own.of_row (((h3.setOther (a := ⟨H, 0, none⟩) (by show g ≠ H; omega) _).setOther (a := ⟨H, 1, none⟩) (by show g ≠ H; omega) _).setOther (a := ⟨H, 2, none⟩) (by show g ≠ H; omega) _) (by omega)
            · exact (((hEz.setCell (Nat.le_refl _) _).setCell (Nat.le_refl _) _).setCell (Nat.le_refl _) _).1
          · have HOK := Lib.hid (decide_eq_false hok)
            rw [HOK.out]
            have hRW := HRW.out
            rw [if_pos hok] at hRW
            have HRW := Lib.hid hRW
            clear hRW hok
            go_wp2_with fail
            refine bodyPost_ret (v := recV 0 0 (.slice none 0 0) 0 12) (by simp [results, Try.results20, go_sem, recV, c0, c1, c2]) rfl ⟨.inr ⟨by rw [HRW.out]; decide, by rw [HRW.out]; rfl⟩, ?_⟩
            exact (((hEz.setCell (Nat.le_refl _) _).setCell (Nat.le_refl _) _).setCell (Nat.le_refl _) _).1
        · rw [if_pos hWS] at hRW
          have e1 : decide (W ≠ S) = true := by simp [hWS]
          rw [e1]
          have HRW := Lib.hid hRW
          clear hRW hWS e1
          go_wp2_with fail
          refine bodyPost_ret (v := recV 0 0 (.slice none 0 0) 0 14) (by simp [results, Try.results20, go_sem, recV, c0, c1, c2]) rfl ⟨.inr ⟨by rw [HRW.out]; decide, by rw [HRW.out]; rfl⟩, ?_⟩
          exact (((hEz.setCell (Nat.le_refl _) _).setCell (Nat.le_refl _) _).setCell (Nat.le_refl _) _).1
theorem recdec_any (a : Option Addr) (len cap : Nat) (xs : List UInt8) (w : World) (h : Bs w a len cap xs) (hl : len ≤ big) :
    Calls Try.prog 20 #[.slice a len cap] w fun e w' => RecPost xs w.heap.size e w' ∧ Below w.heap.size w w' := by
  cases hb : badHead xs with
  | true =>
    refine (recdec_head a len cap xs w h hb).mono fun e w' ⟨h1, h2⟩ => ⟨.inr ?_, h2⟩
    have : recWhy xs = 12 := by unfold recWhy; rw [if_pos hb]
    rw [this]
    exact ⟨by decide, h1⟩
  | false => exact recdec_rest0 a len cap xs w h hl hb
end Go.Proofs.Ytmjlndfkddacbaa
