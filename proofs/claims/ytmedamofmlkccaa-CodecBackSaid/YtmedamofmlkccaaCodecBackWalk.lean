/- The walk of permafrostlaw4.CodecBack. -/
import Derived.Test.YtmedamofmlkccaaCodecKnown
import Derived.Test.YtmedamofmlkccaaCodecUse
import Derived.Test.YtmedamofmlkccaaWithin
import Derived.Test.YtmedamofmlkccaaParts
import Derived.Test.YtmedamofmlkccaaCut
import Derived.Deep.DeepCutAuto
import Derived.Deep.RegionHeld3
import Derived.Laws.Bits64b
import Derived.Test.YtmedamofmlkccaaHeld
namespace Go.Proofs.Ytmedamofmlkccaa
open Go.RowKit

theorem mask8 (n : Nat) (h : n < 18446744073709551616) : bits .and .u64 (n : Int) 255 = ((n % 256 : Nat) : Int) := by
  have := bits_and_u64_nat n 255 h (by decide)
  rw [show n &&& 255 = n % 256 from Nat.and_two_pow_sub_one_eq_mod n 8] at this
  exact this
theorem mask16 (n : Nat) (h : n < 18446744073709551616) : bits .and .u64 (n : Int) 65535 = ((n % 65536 : Nat) : Int) := by
  have := bits_and_u64_nat n 65535 h (by decide)
  rw [show n &&& 65535 = n % 65536 from Nat.and_two_pow_sub_one_eq_mod n 16] at this
  exact this

/-- what is written of one part -/
def enc1 (p : Pt) : List UInt8 := be (p.n % 256) 1 ++ (be (p.n % 65536) 2 ++ (be p.n 8 ++ ([fb (p.n % 2 == 1)] ++ lenBytes (p.xs.take 60))))
def encs (ps : List Pt) : List UInt8 := (ps.map enc1).flatten
theorem encs_take (ps : List Pt) (k : Nat) (h : k < ps.length) : encs (ps.take (k + 1)) = encs (ps.take k) ++ enc1 ps[k] := by
  rw [List.take_succ_eq_append_getElem h, encs, List.map_append, List.flatten_append]; simp [encs]
theorem encs_drop (ps : List Pt) (k : Nat) (h : k < ps.length) : encs (ps.drop k) = enc1 ps[k] ++ encs (ps.drop (k + 1)) := by
  rw [List.drop_eq_getElem_cons h]; rfl
theorem enc1_length (p : Pt) : (enc1 p).length ≤ 74 := by
  simp only [enc1, List.length_append, be_length, lenBytes, List.length_take, List.length_cons, List.length_nil]; omega
theorem encs_length (ps : List Pt) : (encs ps).length ≤ 74 * ps.length := by
  induction ps with
  | nil => simp [encs]
  | cons p ps ih =>
    have := enc1_length p
    simp only [encs, List.map_cons, List.flatten_cons, List.length_append, List.length_cons] at *; omega

set_option maxRecDepth 100000 in
set_option maxHeartbeats 4000000 in
theorem CodecBack_walk (v0 : Value) (w : World) (h0 : Arg Try.prog w 35 v0) :
    Calls Try.prog 7 #[v0] w fun e w' => e = .returned (.bool true) ∧ Below w.heap.size w w' := by
  obtain ⟨a0, len0, cap0, ps, rfl, hA⟩ := h0.parts
  obtain rfl := hA.1
  have hlc := hA.2.1
  clear h0
  obtain ⟨ba, oa, HA⟩ := hA.at
  clear hA
  go_enter Try.func7, Try.ntmps7
  go_wp2_with fail
  refine (wnew_any _).mono ?_
  rintro e w1 ⟨rfl, hW1, hb1⟩
  have hE1 := (Ext.refl w).step hb1
  obtain ⟨p, hp⟩ : ∃ p, p = w.heap.size := ⟨_, rfl⟩
  rw [← hp] at hW1 hE1 HA ⊢
  have HP := Lib.hid hp
  clear hp hb1
  obtain ⟨n, hn⟩ : ∃ n, n = min ps.length 20 := ⟨_, rfl⟩
  have hn1 : n ≤ ps.length := by omega
  have hn2 : n ≤ 20 := by omega
  have hn3 : n < 20 → n = ps.length := by omega
  clear hn
  have HB : ∀ i (h : i < ps.length), Bs w ps[i].a ps[i].len ps[i].cap ps[i].xs := fun i h => ((HA.out (by omega)).2.2 i h).2.2.2.2.2
  go_wp2_with fail
  go_loopw [4] (fun i wr => ∃ k : Nat, k ≤ n ∧ i = .int .i64 k ∧ Hid (WI w p p wr (encs (ps.take k)))) (fun i _ => n - (intOf i).toNat)
  case atStart => exact ⟨0, by omega, rfl, Lib.hid ⟨hE1, none, by simpa [encs] using hW1⟩⟩
  case round =>
    obtain ⟨k, hk, rfl, hW⟩ := hrel
    go_upto_region 5 with fail
    go_cut [17] (fun s wx => s = .bool (decide (k < n)) ∧ wr = wx)
    case first =>
      by_cases h1 : k < ps.length
      · by_cases h2 : k < 20
        · go_wp2_with fail
          go_meet
          exact ⟨congrArg Value.bool (by rw [decide_eq_decide]; omega), rfl⟩
        · go_wp2_with fail
          go_meet
          exact ⟨congrArg Value.bool (by rw [decide_eq_decide]; omega), rfl⟩
      · go_wp2_with fail
        go_meet
        exact ⟨by rw [decide_eq_false (show ¬ k < n by omega)], rfl⟩
    case rest =>
      obtain ⟨rfl, rfl⟩ := hcut
      by_cases hlt : k < n
      · obtain ⟨ha0, hba, hca⟩ := HA.out (by omega)
        subst ha0
        obtain ⟨_, _, hcN, hn64, hcB, hBs⟩ := hca k (by omega)
        have HT := Lib.hid (encs_take ps k (by omega))
        have hd := decide_eq_true hlt
        have hm8 := mask8 ps[k].n hn64
        have hm16 := mask16 ps[k].n hn64
        have hlen := encs_length (ps.take k)
        rw [List.length_take] at hlen
        have hcut : (ps[k].xs.take (min ps[k].len 60)) = ps[k].xs.take 60 := by
          rw [← hBs.1]; exact (List.take_eq_take_iff.2 (by omega))
        have hBt := hBs.take (k := min ps[k].len 60) (by omega)
        rw [hcut] at hBt
        have HBt := Lib.hid hBt
        have hlc60 := hBs.2.1
        clear hca hcut hBt hBs HB
        rw [enc1] at HT
        generalize ps[k] = pk at *
        obtain ⟨kk, N, ab, lb, cb, xs⟩ := pk
        simp only at hcN hn64 hcB hm8 hm16 HBt hlc60 HT
        have HN := Lib.hid hn64
        clear hn64
        have hN1 : N % 256 < 256 := by omega
        have hN2 : N % 65536 < 65536 := by omega
        obtain ⟨f, hf⟩ : ∃ f, f = (N % 2 == 1) := ⟨_, rfl⟩
        have hfI : ((N : Int) % 2 == 1) = f := by rw [hf, Bool.eq_iff_iff, beq_iff_eq, beq_iff_eq]; omega
        rw [← hf] at HT
        clear hf
        generalize encs (ps.take k) = L at *
        have hL : L.length ≤ 1480 := by omega
        have HL := Lib.hid hL
        clear hlen hL
        have h1 := hW.out.cell hba hcN
        go_wp2_with fail
        refine (wbyte_ok (N % 256) hW.out (by omega) (by have := HL.out; unfold big; omega)).mono ?_
        rintro e w2 ⟨rfl, hW2⟩
        have h2 := hW2.cell hba hcN
        clear h1
        go_wp2_with fail
        refine (wshort_ok (N % 65536) hW2 (by omega) (by have := HL.out; simp [be_length]; unfold big; omega)).mono ?_
        rintro e w3 ⟨rfl, hW3⟩
        have h3 := hW3.cell hba hcN
        clear h2
        go_wp2_with fail
        refine (wlong_ok N hW3 (by have := HL.out; simp [be_length]; unfold big; omega)).mono ?_
        rintro e w4 ⟨rfl, hW4⟩
        have h4 := hW4.cell hba hcN
        clear h3
        go_wp2_with fail
        refine (wflag_ok f hW4 (by have := HL.out; simp [be_length]; unfold big; omega)).mono ?_
        rintro e w5 ⟨rfl, hW5⟩
        have h5 := hW5.cell hba hcB
        clear h4
        go_wp2_with fail
        refine (cut_any 60 ab lb cb _ hlc60 (by omega)).mono ?_
        rintro e w6 ⟨rfl, rfl⟩
        go_wp2_with fail
        refine (wbytes_ok hW5 HP.out.symm HBt.out (by have := HL.out; simp [be_length]; unfold big; omega)).mono ?_
        rintro e w7 ⟨rfl, hW7⟩
        go_wp2_with fail
        go_roundw
        case rel => exact ⟨k + 1, by omega, by go_num, Lib.hid (by rw [HT.out]; simpa only [List.append_assoc] using hW7)⟩
        case measure => simp [intOf]; omega
      · obtain rfl : k = n := by omega
        have hd := decide_eq_false hlt
        have hlen := encs_length (ps.take k)
        rw [List.length_take] at hlen
        have hsz : (encs (ps.take k)).length ≤ 1480 := by omega
        have HN3 := Lib.hid hn3
        clear hlen hlt hn3
        have hDr : ∀ j (h : j < k), encs ((ps.take k).drop j) = enc1 (ps[j]'(by omega)) ++ encs ((ps.take k).drop (j + 1)) := fun j h => by
          rw [encs_drop _ j (by rw [List.length_take]; omega), List.getElem_take]
        have hDn : encs ((ps.take k).drop k) = [] := by rw [List.drop_eq_nil_of_le (by rw [List.length_take]; omega)]; rfl
        have HDR := Lib.hid hDr
        have HDN := Lib.hid hDn
        clear hDr hDn
        obtain ⟨hE, g, hWr⟩ := hW.out
        clear hW
        generalize ps.take k = qs at *
        obtain ⟨L, hL⟩ : ∃ L, L = encs qs := ⟨_, rfl⟩
        rw [← hL] at hsz hWr
        have HLq := Lib.hid hL
        clear hL
        go_wp2_with fail
        refine (wdone_any p p g _ _ hWr (by unfold big; omega)).mono ?_
        rintro e w2 ⟨v, rfl, ho, hb2⟩
        obtain ⟨a1, cap1, rfl, hB1⟩ := ho.bs
        have hE2 := hE.step hb2
        have hWr2 := hWr.below hb2
        clear ho hWr
        go_wp2_with fail
        refine (rnew_any a1 L.length cap1 L _ hB1 (by unfold big; omega)).mono ?_
        rintro e w3 ⟨q, rb, rfl, hR, hb3⟩
        have hE3 := hE2.step hb3
        have hR0 : Rd w3 p q rb L 0 := by
          obtain ⟨z0, a, cap, z1, z2, z3, z4, z5⟩ := hR
          have := hE2.2
          exact ⟨by omega, a, cap, z1, z2, z3, z4, fun k hk => Nat.le_trans this (z5 k hk)⟩
        have hWr3 := hWr2.below hb3
        clear hR hB1 hE2 hb2 hb3 hWr2 hE
        go_wp2_with fail
        refine (rleft_any p q rb (L, 0) w3 hR0).mono ?_
        rintro e w4 ⟨rfl, rfl⟩
        have he : rdLeft (L, 0) = L.length := by simp [rdLeft]
        rw [he]
        go_wp2_with fail
        refine (wdone_any p p g _ _ hWr3 (by unfold big; omega)).mono ?_
        rintro e w4 ⟨v, rfl, ho, hb4⟩
        obtain ⟨a2, cap2, rfl, _⟩ := ho.bs
        have hI : RI w p q rb w4 L := ⟨hE3.step hb4, hR0.below hb4, by unfold big; omega⟩
        clear ho hWr3 hR0 hE3 hb4
        have hbn : ((L.length : Int) != (L.length : Int)) = false := by simp
        go_wp2_with fail
        go_loopw [6] (fun i wr => ∃ j : Nat, j ≤ k ∧ i = .int .i64 j ∧ Hid (RI w p q rb wr (encs (qs.drop j)))) (fun i _ => k - (intOf i).toNat)
        case atStart => exact ⟨0, by omega, rfl, Lib.hid (by rw [List.drop_zero, ← HLq.out]; exact hI)⟩
        case round =>
          obtain ⟨j, hj, rfl, hR⟩ := hrel
          go_upto_region 16 with fail
          go_cut [82] (fun s wx => s = .bool (decide (j < k)) ∧ wr = wx)
          case first =>
            have hn3 := HN3.out
            by_cases h1 : j < ps.length
            · by_cases h2 : j < 20
              · go_wp2_with fail
                go_meet
                exact ⟨congrArg Value.bool (by rw [decide_eq_decide]; omega), rfl⟩
              · go_wp2_with fail
                go_meet
                exact ⟨congrArg Value.bool (by rw [decide_eq_decide]; omega), rfl⟩
            · go_wp2_with fail
              go_meet
              exact ⟨by rw [decide_eq_false (show ¬ j < k by omega)], rfl⟩
          case rest =>
            obtain ⟨rfl, rfl⟩ := hcut
            by_cases hlt : j < k
            · obtain ⟨ha0, hba, hca⟩ := HA.out (by omega)
              subst ha0
              obtain ⟨_, _, hcN, hn64, hcB, hBs⟩ := hca j (by omega)
              have HT := Lib.hid (HDR.out j hlt)
              have hd := decide_eq_true hlt
              have hj0 : (0 : Int) ≤ (j : Int) := by omega
              have hj1 : (j : Int) < (ps.length : Int) := by omega
              have hm8 := mask8 ps[j].n hn64
              have hm16 := mask16 ps[j].n hn64
              have hcut : (ps[j].xs.take (min ps[j].len 60)) = ps[j].xs.take 60 := by
                rw [← hBs.1]; exact (List.take_eq_take_iff.2 (by omega))
              have hBt := hBs.take (k := min ps[j].len 60) (by omega)
              rw [hcut] at hBt
              have HBt := Lib.hid hBt
              have hlc60 := hBs.2.1
              clear hca hcut hBt hBs HB
              rw [enc1] at HT
              generalize ps[j] = pk at *
              obtain ⟨kk, N, ab, lb, cb, xs⟩ := pk
              simp only at hcN hn64 hcB hm8 hm16 HBt hlc60 HT
              have HN := Lib.hid hn64
              clear hn64
              obtain ⟨N1, hN1e⟩ : ∃ N1, N1 = N % 256 := ⟨_, rfl⟩
              obtain ⟨N2, hN2e⟩ : ∃ N2, N2 = N % 65536 := ⟨_, rfl⟩
              rw [← hN1e] at hm8 HT
              rw [← hN2e] at hm16 HT
              have hN1 : N1 < 256 := by omega
              have hN2 : N2 < 65536 := by omega
              have hw1 : IntKind.i64.wrap (N1 : Int) = (N1 : Int) := by rw [IntKind.wrap_i64]; omega
              have hw2 : IntKind.i64.wrap (N2 : Int) = (N2 : Int) := by rw [IntKind.wrap_i64]; omega
              have hx1 : ((N1 : Int) != (N1 : Int)) = false := by simp
              have hx2 : ((N2 : Int) != (N2 : Int)) = false := by simp
              have hx3 : ((N : Int) != (N : Int)) = false := by simp
              obtain ⟨f, hf⟩ : ∃ f, f = (N % 2 == 1) := ⟨_, rfl⟩
              have hfI : ((N : Int) % 2 == 1) = f := by rw [hf, Bool.eq_iff_iff, beq_iff_eq, beq_iff_eq]; omega
              rw [← hf] at HT
              have hx4 : (f != f) = false := by simp
              have hx5 : (!f == f) = false := by simp
              have hft : ((N : Int).tmod 2 == 1) = f := by rw [Int.tmod_eq_emod_of_nonneg (by omega)]; exact hfI
              have HF := Lib.hid hf
              clear hf hN1e hN2e
              obtain ⟨M, hM⟩ : ∃ M, M = min lb 60 := ⟨_, rfl⟩
              have HM := Lib.hid hM
              rw [← hM] at HBt
              obtain ⟨L2, hL2⟩ : ∃ L2, L2 = encs (qs.drop (j + 1)) := ⟨_, rfl⟩
              rw [← hL2] at HT
              have HL2 := Lib.hid hL2
              clear hL2
              generalize xs.take 60 = ys at *
              obtain rfl := HBt.out.1
              have hI0 : Hid (RI w p q rb wr.drew _) := Lib.hid (by have := hR.out.drew; rw [HT.out] at this; simpa only [List.append_assoc] using this)
              clear hR
              have hyl : Hid (ys.length ≤ 65535) := Lib.hid (by omega)
              have hC60 : ∀ W, Calls Try.prog 33 #[.slice ab lb cb, .int .i64 60] W fun e w' => e = .returned (.slice ab ys.length cb) ∧ W = w' := fun W => by rw [HM.out]; exact cut_any 60 ab lb cb W hlc60 (by omega)
              have HC60 := Lib.hid hC60
              clear hM hC60
              have h1 := hI0.out.cell hba hcN
              have h2 := hI0.out.cell hba hcB
              go_wp2_with fail
              refine wp_region_held_drew (S := (fun w' => w'.cell? ⟨ba, oa + j * 3 + 1, none⟩ = some (.int .u64 (N : Int)) ∧ w'.cell? ⟨ba, oa + j * 3 + 2, none⟩ = some (.slice ab lb cb))) (by kernel_rfl) ?_ (fun hHeld => ?_)
              · first | exact hHeld | go_keep
              refine held_take (i := 0) (v := ?_) 85 rfl (by kernel_rfl) (by kernel_rfl) (by kernel_rfl) (fun _ _ _ h => h) rfl (by assumption) (Or.inl ⟨by rfl, ?_⟩) ?_
              rotate_left
              · intro w hSw; (try dsimp only at hSw); go_simp; (try with_reducible rfl)
              simp only [List.set_cons_zero, List.set_cons_succ]
              refine held_take (i := 2) (v := ?_) 87 rfl (by kernel_rfl) (by kernel_rfl) (by kernel_rfl) (fun _ _ _ h => h) rfl (by assumption) (Or.inl ⟨by rfl, ?_⟩) ?_
              rotate_left
              · intro w hSw; (try dsimp only at hSw); go_simp; (try with_reducible rfl)
              simp only [List.set_cons_zero, List.set_cons_succ]
              refine held_take (i := 3) (v := ?_) 88 rfl (by kernel_rfl) (by kernel_rfl) (by kernel_rfl) (fun _ _ _ h => h) rfl (by assumption) (Or.inl ⟨by rfl, ?_⟩) ?_
              rotate_left
              · intro w hSw; (try dsimp only at hSw); go_simp; (try with_reducible rfl)
              simp only [List.set_cons_zero, List.set_cons_succ]
              refine held_take (i := 4) (v := ?_) 89 rfl (by kernel_rfl) (by kernel_rfl) (by kernel_rfl) (fun _ _ _ h => h) rfl (by assumption) (Or.inl ⟨by rfl, ?_⟩) ?_
              rotate_left
              · intro w hSw; (try dsimp only at hSw); go_simp; (try with_reducible rfl)
              simp only [List.set_cons_zero, List.set_cons_succ]
              refine held_take (i := 5) (v := ?_) 90 rfl (by kernel_rfl) (by kernel_rfl) (by kernel_rfl) (fun _ _ _ h => h) rfl (by assumption) (Or.inl ⟨by rfl, ?_⟩) ?_
              rotate_left
              · intro w hSw; (try dsimp only at hSw); go_simp; (try with_reducible rfl)
              simp only [List.set_cons_zero, List.set_cons_succ]
              refine held_take (i := 6) (v := ?_) 91 rfl (by kernel_rfl) (by kernel_rfl) (by kernel_rfl) (fun _ _ _ h => h) rfl (by assumption) (Or.inl ⟨by rfl, ?_⟩) ?_
              rotate_left
              · intro w hSw; (try dsimp only at hSw); go_simp; (try with_reducible rfl)
              simp only [List.set_cons_zero, List.set_cons_succ]
              refine held_take (i := 7) (v := ?_) 92 rfl (by kernel_rfl) (by kernel_rfl) (by kernel_rfl) (fun _ _ _ h => h) rfl (by assumption) (Or.inl ⟨by rfl, ?_⟩) ?_
              rotate_left
              · intro w hSw; (try dsimp only at hSw); go_simp; (try with_reducible rfl)
              simp only [List.set_cons_zero, List.set_cons_succ]
              refine held_take (i := 8) (v := ?_) 93 rfl (by kernel_rfl) (by kernel_rfl) (by kernel_rfl) (fun _ _ _ h => h) rfl (by assumption) (Or.inl ⟨by rfl, ?_⟩) ?_
              rotate_left
              · intro w hSw; (try dsimp only at hSw); go_simp; (try with_reducible rfl)
              simp only [List.set_cons_zero, List.set_cons_succ]
              refine wpAnyH_ready (rs := [1]) (by kernel_rfl) (by simp) ?_
              refine AllReadyH.cons rfl (fun K hK => ?_) AllReadyH.nil
              go_simp
              refine (rbyte_ok N1 hI0.out hN1).mono ?_
              rintro e w5 ⟨rfl, hI5⟩
              have g1 := hI5.cell hba hcN; have g2 := hI5.cell hba hcB
              go_wp2_with fail
              refine hK.out _ _ ?_ (fun hHeld2 => ?_)
              · first | exact hHeld | go_keep
              clear hK hHeld K
              have hHeld := hHeld2
              clear hHeld2
              refine held_take (i := 9) (v := ?_) 94 rfl (by kernel_rfl) (by kernel_rfl) (by kernel_rfl) (fun _ _ _ h => h) rfl (by assumption) (Or.inl ⟨by rfl, ?_⟩) ?_
              rotate_left
              · intro w hSw; (try dsimp only at hSw); go_simp; (try with_reducible rfl)
              simp only [List.set_cons_zero, List.set_cons_succ]
              refine held_take (i := 10) (v := ?_) 95 rfl (by kernel_rfl) (by kernel_rfl) (by kernel_rfl) (fun _ _ _ h => h) rfl (by assumption) (Or.inl ⟨by rfl, ?_⟩) ?_
              rotate_left
              · intro w hSw; (try dsimp only at hSw); go_simp; (try with_reducible rfl)
              simp only [List.set_cons_zero, List.set_cons_succ]
              refine held_take (i := 11) (v := ?_) 96 rfl (by kernel_rfl) (by kernel_rfl) (by kernel_rfl) (fun _ _ _ h => h) rfl (by assumption) (Or.inl ⟨by rfl, ?_⟩) ?_
              rotate_left
              · intro w hSw; (try dsimp only at hSw); go_simp; (try with_reducible rfl)
              simp only [List.set_cons_zero, List.set_cons_succ]
              refine held_take (i := 13) (v := ?_) 98 rfl (by kernel_rfl) (by kernel_rfl) (by kernel_rfl) (fun _ _ _ h => h) rfl (by assumption) (Or.inl ⟨by rfl, ?_⟩) ?_
              rotate_left
              · intro w hSw; (try dsimp only at hSw); go_simp; (try with_reducible rfl)
              simp only [List.set_cons_zero, List.set_cons_succ]
              refine held_take (i := 14) (v := ?_) 99 rfl (by kernel_rfl) (by kernel_rfl) (by kernel_rfl) (fun _ _ _ h => h) rfl (by assumption) (Or.inl ⟨by rfl, ?_⟩) ?_
              rotate_left
              · intro w hSw; (try dsimp only at hSw); go_simp; (try with_reducible rfl)
              simp only [List.set_cons_zero, List.set_cons_succ]
              refine held_take (i := 15) (v := ?_) 100 rfl (by kernel_rfl) (by kernel_rfl) (by kernel_rfl) (fun _ _ _ h => h) rfl (by assumption) (Or.inl ⟨by rfl, ?_⟩) ?_
              rotate_left
              · intro w hSw; (try dsimp only at hSw); go_simp; (try with_reducible rfl)
              simp only [List.set_cons_zero, List.set_cons_succ]
              refine held_take (i := 16) (v := ?_) 101 rfl (by kernel_rfl) (by kernel_rfl) (by kernel_rfl) (fun _ _ _ h => h) rfl (by assumption) (Or.inl ⟨by rfl, ?_⟩) ?_
              rotate_left
              · intro w hSw; (try dsimp only at hSw); go_simp; (try with_reducible rfl)
              simp only [List.set_cons_zero, List.set_cons_succ]
              refine held_take (i := 17) (v := ?_) 102 rfl (by kernel_rfl) (by kernel_rfl) (by kernel_rfl) (fun _ _ _ h => h) rfl (by assumption) (Or.inl ⟨by rfl, ?_⟩) ?_
              rotate_left
              · intro w hSw; (try dsimp only at hSw); go_simp; (try with_reducible rfl)
              simp only [List.set_cons_zero, List.set_cons_succ]
              refine held_take (i := 18) (v := ?_) 103 rfl (by kernel_rfl) (by kernel_rfl) (by kernel_rfl) (fun _ _ _ h => h) rfl (by assumption) (Or.inl ⟨by rfl, ?_⟩) ?_
              rotate_left
              · intro w hSw; (try dsimp only at hSw); go_simp; (try with_reducible rfl)
              simp only [List.set_cons_zero, List.set_cons_succ]
              refine held_take (i := 19) (v := ?_) 104 rfl (by kernel_rfl) (by kernel_rfl) (by kernel_rfl) (fun _ _ _ h => h) rfl (by assumption) (Or.inl ⟨by rfl, ?_⟩) ?_
              rotate_left
              · intro w hSw; (try dsimp only at hSw); go_simp; (try with_reducible rfl)
              simp only [List.set_cons_zero, List.set_cons_succ]
              refine wpAnyH_ready (rs := [12]) (by kernel_rfl) (by simp) ?_
              refine AllReadyH.cons rfl (fun K hK => ?_) AllReadyH.nil
              go_simp
              refine (rshort_ok N2 hI5 hN2).mono ?_
              rintro e w6 ⟨rfl, hI6⟩
              have g1 := hI6.cell hba hcN; have g2 := hI6.cell hba hcB
              go_wp2_with fail
              refine hK.out _ _ ?_ (fun hHeld2 => ?_)
              · first | exact hHeld | go_keep
              clear hK hHeld K
              have hHeld := hHeld2
              clear hHeld2
              refine held_take (i := 20) (v := ?_) 105 rfl (by kernel_rfl) (by kernel_rfl) (by kernel_rfl) (fun _ _ _ h => h) rfl (by assumption) (Or.inl ⟨by rfl, ?_⟩) ?_
              rotate_left
              · intro w hSw; (try dsimp only at hSw); go_simp; (try with_reducible rfl)
              simp only [List.set_cons_zero, List.set_cons_succ]
              refine held_take (i := 21) (v := ?_) 106 rfl (by kernel_rfl) (by kernel_rfl) (by kernel_rfl) (fun _ _ _ h => h) rfl (by assumption) (Or.inl ⟨by rfl, ?_⟩) ?_
              rotate_left
              · intro w hSw; (try dsimp only at hSw); go_simp; (try with_reducible rfl)
              simp only [List.set_cons_zero, List.set_cons_succ]
              refine held_take (i := 22) (v := ?_) 107 rfl (by kernel_rfl) (by kernel_rfl) (by kernel_rfl) (fun _ _ _ h => h) rfl (by assumption) (Or.inl ⟨by rfl, ?_⟩) ?_
              rotate_left
              · intro w hSw; (try dsimp only at hSw); go_simp; (try with_reducible rfl)
              simp only [List.set_cons_zero, List.set_cons_succ]
              refine held_take (i := 23) (v := ?_) 108 rfl (by kernel_rfl) (by kernel_rfl) (by kernel_rfl) (fun _ _ _ h => h) rfl (by assumption) (Or.inl ⟨by rfl, ?_⟩) ?_
              rotate_left
              · intro w hSw; (try dsimp only at hSw); go_simp; (try with_reducible rfl)
              simp only [List.set_cons_zero, List.set_cons_succ]
              refine held_take (i := 25) (v := ?_) 110 rfl (by kernel_rfl) (by kernel_rfl) (by kernel_rfl) (fun _ _ _ h => h) rfl (by assumption) (Or.inl ⟨by rfl, ?_⟩) ?_
              rotate_left
              · intro w hSw; (try dsimp only at hSw); go_simp; (try with_reducible rfl)
              simp only [List.set_cons_zero, List.set_cons_succ]
              refine held_take (i := 26) (v := ?_) 111 rfl (by kernel_rfl) (by kernel_rfl) (by kernel_rfl) (fun _ _ _ h => h) rfl (by assumption) (Or.inl ⟨by rfl, ?_⟩) ?_
              rotate_left
              · intro w hSw; (try dsimp only at hSw); go_simp; (try with_reducible rfl)
              simp only [List.set_cons_zero, List.set_cons_succ]
              refine held_take (i := 27) (v := ?_) 112 rfl (by kernel_rfl) (by kernel_rfl) (by kernel_rfl) (fun _ _ _ h => h) rfl (by assumption) (Or.inl ⟨by rfl, ?_⟩) ?_
              rotate_left
              · intro w hSw; (try dsimp only at hSw); go_simp; (try with_reducible rfl)
              simp only [List.set_cons_zero, List.set_cons_succ]
              refine held_take (i := 28) (v := ?_) 113 rfl (by kernel_rfl) (by kernel_rfl) (by kernel_rfl) (fun _ _ _ h => h) rfl (by assumption) (Or.inl ⟨by rfl, ?_⟩) ?_
              rotate_left
              · intro w hSw; (try dsimp only at hSw); go_simp; (try with_reducible rfl)
              simp only [List.set_cons_zero, List.set_cons_succ]
              refine held_take (i := 29) (v := ?_) 114 rfl (by kernel_rfl) (by kernel_rfl) (by kernel_rfl) (fun _ _ _ h => h) rfl (by assumption) (Or.inl ⟨by rfl, ?_⟩) ?_
              rotate_left
              · intro w hSw; (try dsimp only at hSw); go_simp; (try with_reducible rfl)
              simp only [List.set_cons_zero, List.set_cons_succ]
              refine wpAnyH_ready (rs := [24]) (by kernel_rfl) (by simp) ?_
              refine AllReadyH.cons rfl (fun K hK => ?_) AllReadyH.nil
              go_simp
              refine (rlong_ok N hI6 HN.out).mono ?_
              rintro e w7 ⟨rfl, hI7⟩
              have g1 := hI7.cell hba hcN; have g2 := hI7.cell hba hcB
              go_wp2_with fail
              refine hK.out _ _ ?_ (fun hHeld2 => ?_)
              · first | exact hHeld | go_keep
              clear hK hHeld K
              have hHeld := hHeld2
              clear hHeld2
              refine held_take (i := 30) (v := ?_) 115 rfl (by kernel_rfl) (by kernel_rfl) (by kernel_rfl) (fun _ _ _ h => h) rfl (by assumption) (Or.inl ⟨by rfl, ?_⟩) ?_
              rotate_left
              · intro w hSw; (try dsimp only at hSw); go_simp; (try with_reducible rfl)
              simp only [List.set_cons_zero, List.set_cons_succ]
              refine held_take (i := 31) (v := ?_) 116 rfl (by kernel_rfl) (by kernel_rfl) (by kernel_rfl) (fun _ _ _ h => h) rfl (by assumption) (Or.inl ⟨by rfl, ?_⟩) ?_
              rotate_left
              · intro w hSw; (try dsimp only at hSw); go_simp; (try with_reducible rfl)
              simp only [List.set_cons_zero, List.set_cons_succ]
              refine held_take (i := 32) (v := ?_) 117 rfl (by kernel_rfl) (by kernel_rfl) (by kernel_rfl) (fun _ _ _ h => h) rfl (by assumption) (Or.inl ⟨by rfl, ?_⟩) ?_
              rotate_left
              · intro w hSw; (try dsimp only at hSw); go_simp; (try with_reducible rfl)
              simp only [List.set_cons_zero, List.set_cons_succ]
              refine held_take (i := 33) (v := ?_) 118 rfl (by kernel_rfl) (by kernel_rfl) (by kernel_rfl) (fun _ _ _ h => h) rfl (by assumption) (Or.inl ⟨by rfl, ?_⟩) ?_
              rotate_left
              · intro w hSw; (try dsimp only at hSw); go_simp; (try with_reducible rfl)
              simp only [List.set_cons_zero, List.set_cons_succ]
              refine held_take (i := 35) (v := ?_) 120 rfl (by kernel_rfl) (by kernel_rfl) (by kernel_rfl) (fun _ _ _ h => h) rfl (by assumption) (Or.inl ⟨by rfl, ?_⟩) ?_
              rotate_left
              · intro w hSw; (try dsimp only at hSw); go_simp; (try with_reducible rfl)
              simp only [List.set_cons_zero, List.set_cons_succ]
              refine held_take (i := 36) (v := ?_) 121 rfl (by kernel_rfl) (by kernel_rfl) (by kernel_rfl) (fun _ _ _ h => h) rfl (by assumption) (Or.inl ⟨by rfl, ?_⟩) ?_
              rotate_left
              · intro w hSw; (try dsimp only at hSw); go_simp; (try with_reducible rfl)
              simp only [List.set_cons_zero, List.set_cons_succ]
              refine held_take (i := 37) (v := ?_) 122 rfl (by kernel_rfl) (by kernel_rfl) (by kernel_rfl) (fun _ _ _ h => h) rfl (by assumption) (Or.inl ⟨by rfl, ?_⟩) ?_
              rotate_left
              · intro w hSw; (try dsimp only at hSw); go_simp; (try with_reducible rfl)
              simp only [List.set_cons_zero, List.set_cons_succ]
              refine held_take (i := 38) (v := ?_) 123 rfl (by kernel_rfl) (by kernel_rfl) (by kernel_rfl) (fun _ _ _ h => h) rfl (by assumption) (Or.inl ⟨by rfl, ?_⟩) ?_
              rotate_left
              · intro w hSw; (try dsimp only at hSw); go_simp; (try with_reducible rfl)
              simp only [List.set_cons_zero, List.set_cons_succ]
              refine held_take (i := 39) (v := ?_) 124 rfl (by kernel_rfl) (by kernel_rfl) (by kernel_rfl) (fun _ _ _ h => h) rfl (by assumption) (Or.inl ⟨by rfl, ?_⟩) ?_
              rotate_left
              · intro w hSw; (try dsimp only at hSw); go_simp; (try with_reducible rfl)
              simp only [List.set_cons_zero, List.set_cons_succ]
              refine held_take (i := 40) (v := ?_) 125 rfl (by kernel_rfl) (by kernel_rfl) (by kernel_rfl) (fun _ _ _ h => h) rfl (by assumption) (Or.inl ⟨by rfl, ?_⟩) ?_
              rotate_left
              · intro w hSw; (try dsimp only at hSw); go_simp; (try with_reducible rfl)
              simp only [List.set_cons_zero, List.set_cons_succ]
              refine held_take (i := 41) (v := ?_) 126 rfl (by kernel_rfl) (by kernel_rfl) (by kernel_rfl) (fun _ _ _ h => h) rfl (by assumption) (Or.inl ⟨by rfl, ?_⟩) ?_
              rotate_left
              · intro w hSw; (try dsimp only at hSw); go_simp; (try with_reducible rfl)
              simp only [List.set_cons_zero, List.set_cons_succ]
              refine wpAnyH_ready (rs := [34]) (by kernel_rfl) (by simp) ?_
              refine AllReadyH.cons rfl (fun K hK => ?_) AllReadyH.nil
              go_simp
              refine (rflag_ok f hI7).mono ?_
              rintro e w8 ⟨rfl, hI8⟩
              have g1 := hI8.cell hba hcN; have g2 := hI8.cell hba hcB
              go_wp2_with fail
              refine hK.out _ _ ?_ (fun hHeld2 => ?_)
              · first | exact hHeld | go_keep
              clear hK hHeld K
              have hHeld := hHeld2
              clear hHeld2
              refine held_take (i := 42) (v := ?_) 127 rfl (by kernel_rfl) (by kernel_rfl) (by kernel_rfl) (fun _ _ _ h => h) rfl (by assumption) (Or.inl ⟨by rfl, ?_⟩) ?_
              rotate_left
              · intro w hSw; (try dsimp only at hSw); go_simp; (try with_reducible rfl)
              simp only [List.set_cons_zero, List.set_cons_succ]
              refine held_take (i := 43) (v := ?_) 128 rfl (by kernel_rfl) (by kernel_rfl) (by kernel_rfl) (fun _ _ _ h => h) rfl (by assumption) (Or.inl ⟨by rfl, ?_⟩) ?_
              rotate_left
              · intro w hSw; (try dsimp only at hSw); go_simp; (try with_reducible rfl)
              simp only [List.set_cons_zero, List.set_cons_succ]
              refine held_take (i := 44) (v := ?_) 129 rfl (by kernel_rfl) (by kernel_rfl) (by kernel_rfl) (fun _ _ _ h => h) rfl (by assumption) (Or.inl ⟨by rfl, ?_⟩) ?_
              rotate_left
              · intro w hSw; (try dsimp only at hSw); go_simp; (try with_reducible rfl)
              simp only [List.set_cons_zero, List.set_cons_succ]
              refine held_take (i := 45) (v := ?_) 130 rfl (by kernel_rfl) (by kernel_rfl) (by kernel_rfl) (fun _ _ _ h => h) rfl (by assumption) (Or.inl ⟨by rfl, ?_⟩) ?_
              rotate_left
              · intro w hSw; (try dsimp only at hSw); go_simp; (try with_reducible rfl)
              simp only [List.set_cons_zero, List.set_cons_succ]
              refine held_take (i := 48) (v := ?_) 133 rfl (by kernel_rfl) (by kernel_rfl) (by kernel_rfl) (fun _ _ _ h => h) rfl (by assumption) (Or.inl ⟨by rfl, ?_⟩) ?_
              rotate_left
              · intro w hSw; (try dsimp only at hSw); go_simp; (try with_reducible rfl)
              simp only [List.set_cons_zero, List.set_cons_succ]
              refine held_take (i := 49) (v := ?_) 134 rfl (by kernel_rfl) (by kernel_rfl) (by kernel_rfl) (fun _ _ _ h => h) rfl (by assumption) (Or.inl ⟨by rfl, ?_⟩) ?_
              rotate_left
              · intro w hSw; (try dsimp only at hSw); go_simp; (try with_reducible rfl)
              simp only [List.set_cons_zero, List.set_cons_succ]
              refine held_take (i := 50) (v := ?_) 135 rfl (by kernel_rfl) (by kernel_rfl) (by kernel_rfl) (fun _ _ _ h => h) rfl (by assumption) (Or.inl ⟨by rfl, ?_⟩) ?_
              rotate_left
              · intro w hSw; (try dsimp only at hSw); go_simp; (try with_reducible rfl)
              simp only [List.set_cons_zero, List.set_cons_succ]
              refine held_take (i := 51) (v := ?_) 136 rfl (by kernel_rfl) (by kernel_rfl) (by kernel_rfl) (fun _ _ _ h => h) rfl (by assumption) (Or.inl ⟨by rfl, ?_⟩) ?_
              rotate_left
              · intro w hSw; (try dsimp only at hSw); go_simp; (try with_reducible rfl)
              simp only [List.set_cons_zero, List.set_cons_succ]
              refine held_take (i := 52) (v := ?_) 137 rfl (by kernel_rfl) (by kernel_rfl) (by kernel_rfl) (fun _ _ _ h => h) rfl (by assumption) (Or.inl ⟨by rfl, ?_⟩) ?_
              rotate_left
              · intro w hSw; (try dsimp only at hSw); go_simp; (try with_reducible rfl)
              simp only [List.set_cons_zero, List.set_cons_succ]
              refine wpAnyH_ready (rs := [46]) (by kernel_rfl) (by simp) ?_
              refine AllReadyH.cons rfl (fun K hK => ?_) AllReadyH.nil
              go_simp
              refine (rbytes_ok ys hI8 hyl.out).mono ?_
              rintro e w9 ⟨⟨a9, c9, rfl, hB9⟩, hI9⟩
              have g1 := hI9.cell hba hcN; have g2 := hI9.cell hba hcB
              have hs := run_string hB9
              have ht := run_string (hI9.1.bs HP.out.symm HBt.out)
              go_wp2_with fail
              refine hK.out _ _ ?_ (fun hHeld2 => ?_)
              · first | exact hHeld | go_keep
              clear hK hHeld K
              refine wpAnyH_mono (S' := (fun w' => (w'.cell? ⟨ba, oa + j * 3 + 1, none⟩ = some (.int .u64 (N : Int)) ∧ w'.cell? ⟨ba, oa + j * 3 + 2, none⟩ = some (.slice ab lb cb)) ∧ (convert 26 9 (.slice a9 ys.length c9)).run Try.prog w' = .ok (.string (strOf ys)) w')) (fun _ h => h.1) _ _ _ _ ?_
              have hHeld : ((fun w' => (w'.cell? ⟨ba, oa + j * 3 + 1, none⟩ = some (.int .u64 (N : Int)) ∧ w'.cell? ⟨ba, oa + j * 3 + 2, none⟩ = some (.slice ab lb cb)) ∧ (convert 26 9 (.slice a9 ys.length c9)).run Try.prog w' = .ok (.string (strOf ys)) w')) _ := ⟨hHeld2, hs⟩
              clear hHeld2
              refine held_take (i := 47) (v := ?_) 132 rfl (by kernel_rfl) (by kernel_rfl) (by kernel_rfl) (fun _ _ _ h => h) rfl (by assumption) (Or.inl ⟨by rfl, ?_⟩) ?_
              rotate_left
              · intro w hSw; (try dsimp only at hSw); go_simp; (try with_reducible rfl)
              simp only [List.set_cons_zero, List.set_cons_succ]
              refine wpAnyH_ready (rs := [53]) (by kernel_rfl) (by simp) ?_
              refine AllReadyH.cons rfl (fun K hK => ?_) AllReadyH.nil
              go_simp
              refine (HC60.out _).mono ?_
              rintro e w10 ⟨rfl, rfl⟩
              go_wp2_with fail
              refine hK.out _ _ ?_ (fun hHeld2 => ?_)
              · first | exact hHeld | go_keep
              clear hK hHeld K
              refine wpAnyH_mono (S' := (fun w' => ((w'.cell? ⟨ba, oa + j * 3 + 1, none⟩ = some (.int .u64 (N : Int)) ∧ w'.cell? ⟨ba, oa + j * 3 + 2, none⟩ = some (.slice ab lb cb)) ∧ (convert 26 9 (.slice a9 ys.length c9)).run Try.prog w' = .ok (.string (strOf ys)) w') ∧ (convert 26 9 (.slice ab ys.length cb)).run Try.prog w' = .ok (.string (strOf ys)) w')) (fun _ h => h.1) _ _ _ _ ?_
              have hHeld : ((fun w' => ((w'.cell? ⟨ba, oa + j * 3 + 1, none⟩ = some (.int .u64 (N : Int)) ∧ w'.cell? ⟨ba, oa + j * 3 + 2, none⟩ = some (.slice ab lb cb)) ∧ (convert 26 9 (.slice a9 ys.length c9)).run Try.prog w' = .ok (.string (strOf ys)) w') ∧ (convert 26 9 (.slice ab ys.length cb)).run Try.prog w' = .ok (.string (strOf ys)) w')) _ := ⟨hHeld2, ht⟩
              clear hHeld2
              refine held_take (i := 54) (v := ?_) 139 rfl (by kernel_rfl) (by kernel_rfl) (by kernel_rfl) (fun _ _ _ h => h) rfl (by assumption) (Or.inl ⟨by rfl, ?_⟩) ?_
              rotate_left
              · intro w hSw; (try dsimp only at hSw); go_simp; (try with_reducible rfl)
              simp only [List.set_cons_zero, List.set_cons_succ]
              refine held_take (i := 55) (v := ?_) 140 rfl (by kernel_rfl) (by kernel_rfl) (by kernel_rfl) (fun _ _ _ h => h) rfl (by assumption) (Or.inl ⟨by rfl, ?_⟩) ?_
              rotate_left
              · intro w hSw; (try dsimp only at hSw); go_simp; (try with_reducible rfl)
              simp only [List.set_cons_zero, List.set_cons_succ]
              refine held_take (i := 56) (v := ?_) 141 rfl (by kernel_rfl) (by kernel_rfl) (by kernel_rfl) (fun _ _ _ h => h) rfl (by assumption) (Or.inl ⟨by rfl, ?_⟩) ?_
              rotate_left
              · intro w hSw; (try dsimp only at hSw); go_simp; (try with_reducible rfl)
              simp only [List.set_cons_zero, List.set_cons_succ]
              refine wpAnyH_done (by kernel_rfl) ?_ _
              all_goals
                go_wp2_with fail
                go_roundw
                case rel => exact ⟨j + 1, by omega, by go_num, Lib.hid (by rw [← HL2.out]; exact hI9)⟩
                case measure => simp [intOf]; omega
            · obtain rfl : j = k := by omega
              have hd := decide_eq_false hlt
              have hR1 := hR.out
              rw [HDN.out] at hR1
              obtain ⟨hE, hRd, _⟩ := hR1
              clear hR
              have hl0 : rdLeft ([], 0) = 0 := by simp [rdLeft]
              have hl1 : rdEnd ([], 0) = 0 := by simp [rdEnd]
              go_wp2_with fail
              refine (rleft_any p q rb ([], 0) wr hRd).mono ?_
              rintro e w5 ⟨rfl, rfl⟩
              rw [hl0]
              go_wp2_with fail
              refine (rend_any p q rb ([], 0) wr hRd).mono ?_
              rintro e w5 ⟨rfl, rfl⟩
              rw [hl1]
              go_wp2_with fail
              refine (codec_known _).mono ?_
              rintro e w5 ⟨rfl, hb⟩
              go_wp2_with fail
              go_ret
              exact ⟨rfl, by have := (hE.step hb).1; rw [HP.out] at this; exact this⟩
end Go.Proofs.Ytmedamofmlkccaa
