/- The walk of CodecTells. -/
import Derived.Test.YtmedamofmlkccaaCodecPut
import Derived.Test.YtmedamofmlkccaaCodecGet
import Derived.Test.YtmedamofmlkccaaCodecKnown
import Derived.Test.YtmedamofmlkccaaParts
import Derived.Test.YtmedamofmlkccaaBook
import Derived.Test.YtmedamofmlkccaaWithin
import Derived.Deep.DeepCutAuto
namespace Go.Proofs.Ytmedamofmlkccaa
open Go.RowKit

theorem own_apart {w : World} {B len cap : Nat} {a : Option Addr} {L : List UInt8} {S : Nat → Prop} (ho : Own w B (.slice a len cap) L) (h : ∀ k, (Value.slice a len cap).ownBlock = some k → ¬ S k) : ∀ ad, a = some ad → ¬ S ad.block := by
  intro ad had
  rcases ho.parts with ⟨h1, _⟩ | ⟨g, c, h1, _, _⟩
  · injection h1 with h1
    rw [h1] at had; cases had
  · refine h _ ?_
    rw [h1]
    injection h1 with h1
    rw [h1] at had; cases had
    rfl

set_option maxHeartbeats 8000000 in
set_option maxRecDepth 100000 in
theorem CodecTells_walk (v0 : Value) (v1 : Value) (v2 : Value) (v3 : Value) (v4 : Value) (w : World) (h0 : Arg Try.prog w 35 v0) (h1 : Arg Try.prog w 35 v1) (h2 : Arg Try.prog w 26 v2) (h3 : Arg Try.prog w 3 v3) (h4 : Arg Try.prog w 5 v4) :
    Calls Try.prog 6 #[v0, v1, v2, v3, v4] w fun e w' => e = .returned (.bool true) ∧ Below w.heap.size w w' := by
  obtain ⟨a0, len0, cap0, ps, rfl, hA⟩ := h0.parts
  obtain rfl := hA.1
  obtain ⟨a1, len1, cap1, pq, rfl, hA1⟩ := h1.parts
  obtain rfl := hA1.1
  obtain ⟨am, lm, cm, ms, rfl, hBm0⟩ := h2.bytes Try.underlying26 Try.underlying5 (by kernel_rfl)
  obtain ⟨at_, rfl, _⟩ := h3.int Try.underlying3
  obtain ⟨z, rfl, hz⟩ := h4.int Try.underlying5
  obtain ⟨tn, rfl⟩ : ∃ t : UInt8, (t.toNat : Int) = z := ⟨byteOf z, byteOf_toNat hz⟩
  clear h0 h1 h2 h3 h4 hz
  obtain ⟨ba, oa, HA⟩ := hA.at
  obtain ⟨bq, oq, HQ⟩ := hA1.at
  have hlc0 := hA.2.1
  have hlc1 := hA1.2.1
  have hlm := hBm0.2.1
  clear hA hA1
  obtain ⟨P, hP⟩ : ∃ P, P = w.heap.size := ⟨_, rfl⟩
  have HBM := Lib.hid (show ∀ W, Below P w W → Bs W am lm cm ms from fun W hb => hBm0.below (by rw [← hP]; exact hb))
  obtain ⟨n, hn⟩ : ∃ n, n = min ps.length 20 := ⟨_, rfl⟩
  have hn1 : n ≤ ps.length := by omega
  have hn2 : n ≤ 20 := by omega
  have hn3 : n < 20 → n = ps.length := by omega
  obtain ⟨n2, hn'⟩ : ∃ n2, n2 = min pq.length 30 := ⟨_, rfl⟩
  have hm1 : n2 ≤ pq.length := by omega
  have hm2 : n2 ≤ 30 := by omega
  have hm3 : n2 < 30 → n2 = pq.length := by omega
  clear hn hn' hBm0
  have HNW := Lib.hid (wnew_any w)
  rw [← hP] at HNW HA HQ ⊢
  have hEw : Ext P w w := by rw [hP]; exact Ext.refl w
  have hPsz : w.heap.size = P := hP.symm
  have HP := Lib.hid hP
  clear hP
  go_enter Try.func6, Try.ntmps6
  go_wp2_with fail
  refine HNW.out.mono ?_
  rintro e w1 ⟨rfl, hW1, hb1⟩
  have hE1 : Ext P w w1 := hEw.step (by rw [hPsz]; exact hb1)
  have HPS := Lib.hid hPsz
  clear hb1 hEw HNW hPsz
  go_wp2_with fail
  go_loopw [12, 13] (fun x i wr => ∃ (k : Nat) (L : List UInt8) (g : Option Nat), k ≤ n ∧ i = .int .i64 k ∧ L.length ≤ 110 * k ∧ Own wr P x L ∧ Wr wr P P g L ∧ (∀ j, x.ownBlock = some j → ¬ WS P g j) ∧ Ext P w wr) (fun _ i _ => n - (intOf i).toNat)
  case atStart => exact ⟨0, [], none, by omega, rfl, by simp, Own.nil _ _, hW1, (by intro j hj; simp [Value.ownBlock] at hj), hE1⟩
  case round =>
    obtain ⟨k, L, g, hk, rfl, hLl, ho, hW, hap, hE⟩ := hrel
    clear hW1 hE1
    obtain ⟨a, cap, rfl, hB⟩ := ho.bs
    go_upto_region 6 with fail
    go_cut [28] (fun s wx => s = .bool (decide (k < n)) ∧ wr = wx)
    case first =>
      by_cases h1 : k < ps.length
      · by_cases h2 : k < 20
        · go_wp2_with fail
          go_meet
          exact ⟨congrArg Value.bool (by rw [decide_eq_decide]; omega), rfl⟩
        · go_wp2_with fail
          go_meet
          exact ⟨congrArg Value.bool (by rw [decide_eq_decide]; omega), rfl⟩
      · go_wp2_with fail
        go_meet
        exact ⟨by rw [decide_eq_false (show ¬ k < n by omega)], rfl⟩
    case rest =>
      obtain ⟨rfl, rfl⟩ := hcut
      by_cases hlt : k < n
      · obtain ⟨ha0, hba, hca⟩ := HA.out (by omega)
        subst ha0
        obtain ⟨hcK, _, hcN, hn64, hcB, hBs⟩ := hca k (by omega)
        have hd := decide_eq_true hlt
        have hj0 : (0 : Int) ≤ (k : Int) := by omega
        have hj1 : (k : Int) < (ps.length : Int) := by omega
        have t0 := (hE.1.cell (p := ⟨ba, oa + k * 3, none⟩) hba).trans hcK
        have t1 := (hE.1.cell (p := ⟨ba, oa + k * 3 + 1, none⟩) hba).trans hcN
        have t2 := (hE.1.cell (p := ⟨ba, oa + k * 3 + 2, none⟩) hba).trans hcB
        clear hca hcK hcN hcB
        generalize ps[k] = pk at *
        obtain ⟨kk, N, ab, lb, cb, xs⟩ := pk
        simp only at t0 t1 t2 hn64 hBs
        have HPT := Lib.hid (lput_any P P g L a cap kk N ab lb cb xs wr hW hB (fun _ => own_apart ho hap) (hBs.below (by rw [HPS.out]; exact hE.1)) (hW.apart hBs (by rw [HPS.out]; exact Nat.le_refl _)) (by omega))
        have hWb := hW
        clear hn64 hBs hB hap hW ho
        go_wp2_with fail
        refine HPT.out.mono ?_
        rintro e w2 ⟨v', L', g', rfl, ho', hW', hC', _, hap', hl'⟩
        have hE2 := hE.to (hWb.belowOf hC')
        go_wp2_with fail
        go_roundw
        case rel => exact ⟨k + 1, L', g', by omega, by go_num, by omega, ho'.base hE.2, hW', hap', hE2⟩
        case measure => simp [intOf]; omega
      · obtain rfl : k = n := by omega
        have hd := decide_eq_false hlt
        have hs0 := run_string hB.drew
        have hL2200 : L.length ≤ 2200 := by omega
        clear hap
        go_wp2_with fail
        refine wp_region_held_drew (S := (fun w' => (convert 26 9 (.slice a L.length cap)).run Try.prog w' = .ok (.string (strOf L)) w')) (by kernel_rfl) ?_ (fun hHeld => ?_)
        · first | exact hs0
        refine held_take (i := 0) (v := ?_) 38 rfl (by kernel_rfl) (by kernel_rfl) (by kernel_rfl) (fun _ _ _ h => h) rfl (by assumption) (Or.inl ⟨by rfl, ?_⟩) ?_
        rotate_left
        · intro w hSw; (try dsimp only at hSw); go_simp; (try with_reducible rfl)
        simp only [List.set_cons_zero, List.set_cons_succ]
        refine held_take (i := 3) (v := ?_) 41 rfl (by kernel_rfl) (by kernel_rfl) (by kernel_rfl) (fun _ _ _ h => h) rfl (by assumption) (Or.inl ⟨by rfl, ?_⟩) ?_
        rotate_left
        · intro w hSw; (try dsimp only at hSw); go_simp; (try with_reducible rfl)
        simp only [List.set_cons_zero, List.set_cons_succ]
        refine held_take (i := 4) (v := ?_) 42 rfl (by kernel_rfl) (by kernel_rfl) (by kernel_rfl) (fun _ _ _ h => h) rfl (by assumption) (Or.inl ⟨by rfl, ?_⟩) ?_
        rotate_left
        · intro w hSw; (try dsimp only at hSw); go_simp; (try with_reducible rfl)
        simp only [List.set_cons_zero, List.set_cons_succ]
        refine wpAnyH_ready (rs := [1]) (by kernel_rfl) (by simp) ?_
        refine AllReadyH.cons rfl (fun K hK => ?_) AllReadyH.nil
        go_simp
        refine (wdone_any P P g L wr.drew (hW.below (Below.refl _ _).drew) (by unfold big; omega)).mono ?_
        rintro e w2 ⟨v2, rfl, ho2, hb2⟩
        obtain ⟨a2, k2, rfl, hB2⟩ := ho2.bs
        have hs2 := run_string hB2
        have hs0 := run_string ((hB.drew).below hb2)
        go_wp2_with fail
        refine hK.out _ _ ?_ (fun hHeld2 => ?_)
        · first | exact hs0
        clear hK hHeld K
        refine wpAnyH_mono (S' := (fun w' => ((convert 26 9 (.slice a L.length cap)).run Try.prog w' = .ok (.string (strOf L)) w') ∧ (convert 26 9 (.slice a2 L.length k2)).run Try.prog w' = .ok (.string (strOf L)) w')) (fun _ h => h.1) _ _ _ _ ?_
        have hHeld : ((fun w' => ((convert 26 9 (.slice a L.length cap)).run Try.prog w' = .ok (.string (strOf L)) w') ∧ (convert 26 9 (.slice a2 L.length k2)).run Try.prog w' = .ok (.string (strOf L)) w')) _ := ⟨hs0, hs2⟩
        clear hHeld2
        refine held_take (i := 2) (v := ?_) 40 rfl (by kernel_rfl) (by kernel_rfl) (by kernel_rfl) (fun _ _ _ h => h) rfl (by assumption) (Or.inl ⟨by rfl, ?_⟩) ?_
        rotate_left
        · intro w hSw; (try dsimp only at hSw); go_simp; (try with_reducible rfl)
        simp only [List.set_cons_zero, List.set_cons_succ]
        refine held_take (i := 5) (v := ?_) 43 rfl (by kernel_rfl) (by kernel_rfl) (by kernel_rfl) (fun _ _ _ h => h) rfl (by assumption) (Or.inl ⟨by rfl, ?_⟩) ?_
        rotate_left
        · intro w hSw; (try dsimp only at hSw); go_simp; (try with_reducible rfl)
        simp only [List.set_cons_zero, List.set_cons_succ]
        refine wpAnyH_done (by kernel_rfl) ?_ _
        have hE2 := hE.drew.step hb2
        have ho3 := (ho.below (Below.refl _ _).drew).below hb2
        clear hs0 hs2 hB2 ho2 hW hB ho hE hHeld
        obtain ⟨n0, hn0⟩ : ∃ n0, n0 = L.length := ⟨_, rfl⟩
        have hL2n : L.length = n0 := hn0.symm
        have hm100 : n0 ≤ 2200 := by omega
        rw [hL2n] at ho3 ⊢
        clear hn0 hb2
        rcases Nat.eq_zero_or_pos n0 with h00 | h00
        · have hz0 : ¬ (0 : Int) < (n0 : Int) := by omega
          have ho := ho3
          have hE := hE2
          obtain ⟨L2, hL2⟩ : ∃ L2, L2 = L := ⟨_, rfl⟩
          rw [← hL2] at ho hL2n
          clear hE2 ho3 hL2 h00
          have hmm : min lm 100 ≤ 100 := Nat.min_le_right _ _
          have HCm := Lib.hid (fun W => cut_any 100 am lm cm W hlm (by omega))
          have hBm := (HBM.out _ hE.1).take (k := min lm 100) (Nat.min_le_left _ _)
          generalize min lm 100 = m1 at *
          generalize ms.take m1 = zs at *
          go_wp2_with fail
          refine (HCm.out _).mono ?_
          rintro e wq ⟨rfl, rfl⟩
          go_wp2_with (at_builtin; refine wpList_append_bytes rfl _ _ rfl P _ L2 rfl ho am m1 cm zs rfl hBm ?u1a ?u1b ?u1k)
          case u1a => rw [hL2n]; omega
          case u1b => exact hE.2
          intro v5 w5 ho5 hg5 _
          have hE5 := hE.grown hg5 ho.blk
          obtain ⟨m, hm⟩ : ∃ m, m = n0 + m1 := ⟨_, rfl⟩
          have hMl : (L2 ++ zs).length = m := by rw [List.length_append, hL2n, hBm.1, hm]
          have hmb : m ≤ 3000 := by omega
          obtain ⟨a5, c5, rfl, hB5⟩ := ho5.bsn hMl
          generalize L2 ++ zs = M at *
          clear hm ho hg5 hE hBm hL2n hm100
          go_wp2_with fail
          refine (roomy_bytes a5 c5 m M w5 hB5 (by omega)).mono ?_
          rintro e w6 ⟨v6, rfl, ho6, hb6⟩
          have hE6 := hE5.step hb6
          have hB6 := hB5.below hb6
          obtain ⟨m80, hm80⟩ : ∃ m80, m80 = m + 80 := ⟨_, rfl⟩
          obtain ⟨af, cf, rfl, hF6⟩ := ho6.bsn (n := m80) (by rw [List.length_append, hMl, List.length_replicate, hm80])
          have HM80 := Lib.hid hm80
          have hT6 := hF6.take (k := m) (by omega)
          rw [List.take_left' hMl] at hT6
          have hcf : (m : Int) ≤ (cf : Int) := by have := hF6.2.1; omega
          have hm0 : (0 : Int) ≤ (m : Int) := by omega
          have hs65 := hb6.size
          clear ho6 hb6 hB5 hE5 hm80
          go_wp2_with fail
          refine (rnew_any af m cf M w6 hT6 (by unfold big; omega)).mono ?_
          rintro e w7 ⟨q, rb, rfl, hR7, hb7⟩
          have hE7 := hE6.step hb7
          have hB7 := hB6.below hb7
          have hF7 := hF6.below hb7
          have hq1 := hR7.1
          have hq2 := hR7.lt
          have hW7 := RR.new hB7 (by unfold big; omega)
          have hR8 := hR7.below ((Below.refl _ _).alloc (Nat.le_refl _) (.cells #[.slice a5 m c5, .int .i64 0, .int .i64 0] 47))
          have hE8 := hE7.alloc (.cells #[.slice a5 m c5, .int .i64 0, .int .i64 0] 47)
          have hB8 := hB7.alloc (.cells #[.slice a5 m c5, .int .i64 0, .int .i64 0] 47)
          have hF8 := hF7.alloc (.cells #[.slice a5 m c5, .int .i64 0, .int .i64 0] 47)
          have hb67 := hb7.size
          have hP6 := hE6.2
          have hFb : 0 < m80 → ∀ ad, af = some ad → ad.block < w6.heap.size := by
            intro h0 ad had
            rcases hF6.2.2.2 with h | ⟨b, off, h1, h2, _⟩
            · omega
            · rw [h1] at had; cases had; exact h2
          have hBb : 0 < m → ∀ ad, a5 = some ad → ad.block < w6.heap.size := by
            intro h0 ad had
            rcases hB6.2.2.2 with h | ⟨b, off, h1, h2, _⟩
            · omega
            · rw [h1] at had; cases had; exact h2
          obtain ⟨q2, hq2e⟩ : ∃ q2, q2 = w7.heap.size := ⟨_, rfl⟩
          rw [← hq2e] at hW7 hq2 hb67
          have HQ2 := Lib.hid hq2e
          have hne : q ≠ q2 := by omega
          obtain ⟨pp, hpp⟩ : ∃ pp, pp = w6.heap.size := ⟨_, rfl⟩
          rw [← hpp] at hR8 hFb hBb hq1 hb67 hP6
          have HFB := Lib.hid hFb
          have HBB := Lib.hid hBb
          clear hR7 hb7 hE7 hB7 hF7 hE6 hB6 hF6 hT6 hq2e hpp hFb hBb
          go_upto_region 17 with fail
          rw [← HQ2.out]
          generalize w7.alloc (.cells #[.slice a5 m c5, .int .i64 0, .int .i64 0] 47) = w8 at *
          have HF8 := Lib.hid hF8
          have HB8 := Lib.hid hB8
          clear hF8 hB8
          go_wp2_with fail
          go_loopw [17] (fun i wr => ∃ (k : Nat) (T : List UInt8 × Nat), k ≤ n2 ∧ i = .int .i64 k ∧ Rd wr pp q rb T.1 T.2 ∧ T.1.length ≤ big ∧ RR wr q2 q2 M T ∧ Chg (fun j => j = q ∨ j = q2) w8 wr) (fun i _ => n2 - (intOf i).toNat)
          case atStart => exact ⟨0, (M, 0), by omega, rfl, hR8, by show M.length ≤ big; unfold big; omega, hW7, Chg.refl _ _⟩
          case round =>
            obtain ⟨k, T, hk, rfl, hR, hTl, hW, hC⟩ := hrel
            clear hR8 hW7
            go_upto_region 20 with fail
            go_cut [81] (fun s wx => s = .bool (decide (k < n2)) ∧ wr = wx)
            case first =>
              by_cases h1 : k < pq.length
              · by_cases h2 : k < 30
                · go_wp2_with fail
                  go_meet
                  exact ⟨congrArg Value.bool (by rw [decide_eq_decide]; omega), rfl⟩
                · go_wp2_with fail
                  go_meet
                  exact ⟨congrArg Value.bool (by rw [decide_eq_decide]; omega), rfl⟩
              · go_wp2_with fail
                go_meet
                exact ⟨by rw [decide_eq_false (show ¬ k < n2 by omega)], rfl⟩
            case rest =>
              obtain ⟨rfl, rfl⟩ := hcut
              by_cases hlt : k < n2
              · obtain ⟨ha0, hba, hca⟩ := HQ.out (by omega)
                subst ha0
                obtain ⟨hcK, _, hcN, hn64, hcB, _⟩ := hca k (by omega)
                have hd := decide_eq_true hlt
                have hj0 : (0 : Int) ≤ (k : Int) := by omega
                have hj1 : (k : Int) < (pq.length : Int) := by omega
                have hbq : bq < w8.heap.size := by have := hE8.2; omega
                have t0 := (hC.cell (b := bq) (o := oq + k * 3) hbq (by omega)).trans ((hE8.1.cell (p := ⟨bq, oq + k * 3, none⟩) hba).trans hcK)
                have t1 := (hC.cell (b := bq) (o := oq + k * 3 + 1) hbq (by omega)).trans ((hE8.1.cell (p := ⟨bq, oq + k * 3 + 1, none⟩) hba).trans hcN)
                have t2 := (hC.cell (b := bq) (o := oq + k * 3 + 2) hbq (by omega)).trans ((hE8.1.cell (p := ⟨bq, oq + k * 3 + 2, none⟩) hba).trans hcB)
                clear hca hcK hcN hcB
                generalize pq[k] = pk at *
                obtain ⟨kk, N, ab, lb, cb, xs⟩ := pk
                simp only at t0 t1 t2 hn64
                have HG := Lib.hid (get_any pp q2 q q2 rb M T kk N (.slice ab lb cb) wr hR hTl hW hne)
                clear hn64 hR hW
                go_wp2_with fail
                refine HG.out.mono ?_
                rintro e w9 ⟨rfl, T2, hR2, hTl2, hW2, hC2⟩
                go_wp2_with fail
                go_roundw
                case rel => exact ⟨k + 1, T2, by omega, by go_num, hR2, hTl2, hW2, hC.trans hC2 (fun _ _ h => h)⟩
                case measure => simp [intOf]; omega
              · obtain rfl : k = n2 := by omega
                have hd := decide_eq_false hlt
                have hFr := bs_chgS hC HF8.out (fun h ad had => by have := HFB.out h ad had; intro hj; rcases hj with h | h <;> omega)
                have hBr := bs_chgS hC HB8.out (fun h ad had => by have := HBB.out h ad had; intro hj; rcases hj with h | h <;> omega)
                have hEr := hE8.to (hC.below (B := P) hE8.2 (fun j _ hj => by rcases hj with h | h <;> omega))
                have HI := Lib.hid (intact_bytes af cf a5 c5 m M wr (by rw [← HM80.out]; exact hFr) hBr (by omega))
                rw [← HM80.out] at HI
                clear hFr hBr hR hW hC
                go_wp2_with fail
                refine HI.out.mono ?_
                rintro e w9 ⟨rfl, hb9⟩
                have hE9 := hEr.step hb9
                go_wp2_with fail
                refine (codec_known _).mono ?_
                rintro e w10 ⟨rfl, hb10⟩
                go_wp2_with fail
                go_ret
                exact ⟨rfl, (hE9.step hb10).1⟩
        · obtain ⟨gb, rfl, hgb, hRw⟩ : ∃ gb, a = some ⟨gb, 0, none⟩ ∧ P ≤ gb ∧ Row w2 gb cap L := by
            rcases ho3.parts with ⟨h1, h2⟩ | ⟨g, c, h1, h2, h3⟩
            · rw [h2] at hL2n; simp at hL2n; omega
            · injection h1 with e1 e2 e3
              subst e1 e3
              exact ⟨g, rfl, h2, h3⟩
          have hz1 : (0 : Int) < (n0 : Int) := by omega
          have hw1 : IntKind.i64.wrap ((n0 : Int) - 1) = (n0 : Int) - 1 := IntWalk.i64_in _ (by omega)
          clear ho3
          go_wp2_with fail
          refine (within_any at_ 0 ((n0 : Int) - 1) _ (by omega) (by omega) (by omega)).mono ?_
          rintro e wq ⟨rfl, rfl⟩
          have hi := within_bd at_ 0 ((n0 : Int) - 1) (by omega)
          generalize within at_ 0 ((n0 : Int) - 1) = ii at *
          obtain ⟨j, rfl⟩ : ∃ j : Nat, ii = (j : Int) := ⟨ii.toNat, by omega⟩
          have hiL : j < L.length := by omega
          have hc := hRw.cell j hiL
          have hfz := hRw.frozen j
          have hcl := hRw.len
          have hxo := u8_xor_nat (L[j]).toNat tn.toNat (UInt8.toNat_lt _) (UInt8.toNat_lt _)
          have hR4 := hRw.set j (L[j] ^^^ tn)
          rw [UInt8.toNat_xor] at hR4
          have hE4 := hE2.setCell (p := ⟨gb, j, none⟩) hgb (.int .u8 (((L[j]).toNat ^^^ tn.toNat : Nat) : Int))
          have ho4 := Own.of_row hR4 hgb
          have hl4 : (L.set j (L[j] ^^^ tn)).length = n0 := by rw [List.length_set, hL2n]
          rw [hl4] at ho4
          go_upto_region 13 with fail
          generalize w2.setCell ⟨gb, j, none⟩ (.int .u8 (((L[j]).toNat ^^^ tn.toNat : Nat) : Int)) = w4 at *
          generalize L.set j (L[j] ^^^ tn) = L2 at *
          have ho := ho4
          have hE := hE4
          clear hc hfz hcl hxo hRw hR4 hE2 hE4 ho4 hL2n hw1 h00
          have hL2n := hl4
          clear hl4
          have hmm : min lm 100 ≤ 100 := Nat.min_le_right _ _
          have HCm := Lib.hid (fun W => cut_any 100 am lm cm W hlm (by omega))
          have hBm := (HBM.out _ hE.1).take (k := min lm 100) (Nat.min_le_left _ _)
          generalize min lm 100 = m1 at *
          generalize ms.take m1 = zs at *
          go_wp2_with fail
          refine (HCm.out _).mono ?_
          rintro e wq ⟨rfl, rfl⟩
          go_wp2_with (at_builtin; refine wpList_append_bytes rfl _ _ rfl P _ L2 rfl ho am m1 cm zs rfl hBm ?u2a ?u2b ?u2k)
          case u2a => rw [hL2n]; omega
          case u2b => exact hE.2
          intro v5 w5 ho5 hg5 _
          have hE5 := hE.grown hg5 ho.blk
          obtain ⟨m, hm⟩ : ∃ m, m = n0 + m1 := ⟨_, rfl⟩
          have hMl : (L2 ++ zs).length = m := by rw [List.length_append, hL2n, hBm.1, hm]
          have hmb : m ≤ 3000 := by omega
          obtain ⟨a5, c5, rfl, hB5⟩ := ho5.bsn hMl
          generalize L2 ++ zs = M at *
          clear hm ho hg5 hE hBm hL2n hm100
          go_wp2_with fail
          refine (roomy_bytes a5 c5 m M w5 hB5 (by omega)).mono ?_
          rintro e w6 ⟨v6, rfl, ho6, hb6⟩
          have hE6 := hE5.step hb6
          have hB6 := hB5.below hb6
          obtain ⟨m80, hm80⟩ : ∃ m80, m80 = m + 80 := ⟨_, rfl⟩
          obtain ⟨af, cf, rfl, hF6⟩ := ho6.bsn (n := m80) (by rw [List.length_append, hMl, List.length_replicate, hm80])
          have HM80 := Lib.hid hm80
          have hT6 := hF6.take (k := m) (by omega)
          rw [List.take_left' hMl] at hT6
          have hcf : (m : Int) ≤ (cf : Int) := by have := hF6.2.1; omega
          have hm0 : (0 : Int) ≤ (m : Int) := by omega
          have hs65 := hb6.size
          clear ho6 hb6 hB5 hE5 hm80
          go_wp2_with fail
          refine (rnew_any af m cf M w6 hT6 (by unfold big; omega)).mono ?_
          rintro e w7 ⟨q, rb, rfl, hR7, hb7⟩
          have hE7 := hE6.step hb7
          have hB7 := hB6.below hb7
          have hF7 := hF6.below hb7
          have hq1 := hR7.1
          have hq2 := hR7.lt
          have hW7 := RR.new hB7 (by unfold big; omega)
          have hR8 := hR7.below ((Below.refl _ _).alloc (Nat.le_refl _) (.cells #[.slice a5 m c5, .int .i64 0, .int .i64 0] 47))
          have hE8 := hE7.alloc (.cells #[.slice a5 m c5, .int .i64 0, .int .i64 0] 47)
          have hB8 := hB7.alloc (.cells #[.slice a5 m c5, .int .i64 0, .int .i64 0] 47)
          have hF8 := hF7.alloc (.cells #[.slice a5 m c5, .int .i64 0, .int .i64 0] 47)
          have hb67 := hb7.size
          have hP6 := hE6.2
          have hFb : 0 < m80 → ∀ ad, af = some ad → ad.block < w6.heap.size := by
            intro h0 ad had
            rcases hF6.2.2.2 with h | ⟨b, off, h1, h2, _⟩
            · omega
            · rw [h1] at had; cases had; exact h2
          have hBb : 0 < m → ∀ ad, a5 = some ad → ad.block < w6.heap.size := by
            intro h0 ad had
            rcases hB6.2.2.2 with h | ⟨b, off, h1, h2, _⟩
            · omega
            · rw [h1] at had; cases had; exact h2
          obtain ⟨q2, hq2e⟩ : ∃ q2, q2 = w7.heap.size := ⟨_, rfl⟩
          rw [← hq2e] at hW7 hq2 hb67
          have HQ2 := Lib.hid hq2e
          have hne : q ≠ q2 := by omega
          obtain ⟨pp, hpp⟩ : ∃ pp, pp = w6.heap.size := ⟨_, rfl⟩
          rw [← hpp] at hR8 hFb hBb hq1 hb67 hP6
          have HFB := Lib.hid hFb
          have HBB := Lib.hid hBb
          clear hR7 hb7 hE7 hB7 hF7 hE6 hB6 hF6 hT6 hq2e hpp hFb hBb
          go_upto_region 17 with fail
          rw [← HQ2.out]
          generalize w7.alloc (.cells #[.slice a5 m c5, .int .i64 0, .int .i64 0] 47) = w8 at *
          have HF8 := Lib.hid hF8
          have HB8 := Lib.hid hB8
          clear hF8 hB8
          go_wp2_with fail
          go_loopw [17] (fun i wr => ∃ (k : Nat) (T : List UInt8 × Nat), k ≤ n2 ∧ i = .int .i64 k ∧ Rd wr pp q rb T.1 T.2 ∧ T.1.length ≤ big ∧ RR wr q2 q2 M T ∧ Chg (fun j => j = q ∨ j = q2) w8 wr) (fun i _ => n2 - (intOf i).toNat)
          case atStart => exact ⟨0, (M, 0), by omega, rfl, hR8, by show M.length ≤ big; unfold big; omega, hW7, Chg.refl _ _⟩
          case round =>
            obtain ⟨k, T, hk, rfl, hR, hTl, hW, hC⟩ := hrel
            clear hR8 hW7
            go_upto_region 20 with fail
            go_cut [81] (fun s wx => s = .bool (decide (k < n2)) ∧ wr = wx)
            case first =>
              by_cases h1 : k < pq.length
              · by_cases h2 : k < 30
                · go_wp2_with fail
                  go_meet
                  exact ⟨congrArg Value.bool (by rw [decide_eq_decide]; omega), rfl⟩
                · go_wp2_with fail
                  go_meet
                  exact ⟨congrArg Value.bool (by rw [decide_eq_decide]; omega), rfl⟩
              · go_wp2_with fail
                go_meet
                exact ⟨by rw [decide_eq_false (show ¬ k < n2 by omega)], rfl⟩
            case rest =>
              obtain ⟨rfl, rfl⟩ := hcut
              by_cases hlt : k < n2
              · obtain ⟨ha0, hba, hca⟩ := HQ.out (by omega)
                subst ha0
                obtain ⟨hcK, _, hcN, hn64, hcB, _⟩ := hca k (by omega)
                have hd := decide_eq_true hlt
                have hj0 : (0 : Int) ≤ (k : Int) := by omega
                have hj1 : (k : Int) < (pq.length : Int) := by omega
                have hbq : bq < w8.heap.size := by have := hE8.2; omega
                have t0 := (hC.cell (b := bq) (o := oq + k * 3) hbq (by omega)).trans ((hE8.1.cell (p := ⟨bq, oq + k * 3, none⟩) hba).trans hcK)
                have t1 := (hC.cell (b := bq) (o := oq + k * 3 + 1) hbq (by omega)).trans ((hE8.1.cell (p := ⟨bq, oq + k * 3 + 1, none⟩) hba).trans hcN)
                have t2 := (hC.cell (b := bq) (o := oq + k * 3 + 2) hbq (by omega)).trans ((hE8.1.cell (p := ⟨bq, oq + k * 3 + 2, none⟩) hba).trans hcB)
                clear hca hcK hcN hcB
                generalize pq[k] = pk at *
                obtain ⟨kk, N, ab, lb, cb, xs⟩ := pk
                simp only at t0 t1 t2 hn64
                have HG := Lib.hid (get_any pp q2 q q2 rb M T kk N (.slice ab lb cb) wr hR hTl hW hne)
                clear hn64 hR hW
                go_wp2_with fail
                refine HG.out.mono ?_
                rintro e w9 ⟨rfl, T2, hR2, hTl2, hW2, hC2⟩
                go_wp2_with fail
                go_roundw
                case rel => exact ⟨k + 1, T2, by omega, by go_num, hR2, hTl2, hW2, hC.trans hC2 (fun _ _ h => h)⟩
                case measure => simp [intOf]; omega
              · obtain rfl : k = n2 := by omega
                have hd := decide_eq_false hlt
                have hFr := bs_chgS hC HF8.out (fun h ad had => by have := HFB.out h ad had; intro hj; rcases hj with h | h <;> omega)
                have hBr := bs_chgS hC HB8.out (fun h ad had => by have := HBB.out h ad had; intro hj; rcases hj with h | h <;> omega)
                have hEr := hE8.to (hC.below (B := P) hE8.2 (fun j _ hj => by rcases hj with h | h <;> omega))
                have HI := Lib.hid (intact_bytes af cf a5 c5 m M wr (by rw [← HM80.out]; exact hFr) hBr (by omega))
                rw [← HM80.out] at HI
                clear hFr hBr hR hW hC
                go_wp2_with fail
                refine HI.out.mono ?_
                rintro e w9 ⟨rfl, hb9⟩
                have hE9 := hEr.step hb9
                go_wp2_with fail
                refine (codec_known _).mono ?_
                rintro e w10 ⟨rfl, hb10⟩
                go_wp2_with fail
                go_ret
                exact ⟨rfl, (hE9.step hb10).1⟩
end Go.Proofs.Ytmedamofmlkccaa
