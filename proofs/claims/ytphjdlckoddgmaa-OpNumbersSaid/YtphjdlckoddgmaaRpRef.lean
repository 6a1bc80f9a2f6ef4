/- The contract of permafrostref15.EncodeReply. -/
import Derived.Test.YtphjdlckoddgmaaRpEnc
import Derived.Test.YtphjdlckoddgmaaRef10
import Derived.Deep.RegionHeld3
import Derived.Deep.DeepCutAuto
namespace Go.Proofs.Ytphjdlckoddgmaa
open Go.RowKit

set_option maxHeartbeats 1000000 in
set_option maxRecDepth 100000 in
theorem rzero_any (n : Nd) (w : World) : Calls Try.prog 54 #[.agg n.cells] w fun e w' => e = .returned (.bool (decide n.isZero)) ∧ Below w.heap.size w w' := by
  obtain ⟨id, kind, links, size, til, closed⟩ := n
  generalize hok : decide (Nd.isZero ⟨id, kind, links, size, til, closed⟩) = ok
  have HO := Lib.hid hok
  clear hok
  unfold Nd.cells
  simp only
  go_enter Try.func54, Try.ntmps54
  go_wp2
  all_goals go_ret
  all_goals refine ⟨ret_bool ?_, ((Ext.refl w).alloc _).1⟩
  all_goals rw [← HO.out, Bool.eq_iff_iff]
  all_goals simp only [Nd.isZero]
  all_goals (first | omega | (simp_all; done) | (simp_all; omega) | go_goals)
theorem rshort_fn (n : Int) (w : World) : Calls Try.prog 29 #[.int .i64 n] w fun e w' => e = .returned (.bool (shortI n)) ∧ w = w' := by
  unfold shortI
  go_enter Try.func29, Try.ntmps29
  go_wp2
  all_goals go_ret
  all_goals refine ⟨ret_bool ?_, rfl⟩
  all_goals (first | (symm; simp; omega) | go_goals)

set_option maxHeartbeats 8000000 in
set_option maxRecDepth 100000 in
theorem rrpenc_no (e n : Int) (da : Option Addr) (dl dc : Nat) (ds : List UInt8) (na : Option Addr) (nl nc : Nat) (ls : List (List UInt8)) (nd : Nd) (w : World) (hdl : ds.length = dl) (h : Ss w na nl nc ls)
    (hF : ¬ ((0 ≤ e ∧ e ≤ 255 ∧ shortI n = true ∧ dl ≤ 65535 ∧ nl ≤ 255) ∧ (nd.isZero ∨ nd.Ok))) :
    Calls Try.prog 21 #[.agg (rpCells e n da dl dc na nl nc nd)] w fun e' w' => e' = .returned (.tuple #[.slice none 0 0, .int .i64 12]) ∧ Below w.heap.size w w' := by
  have hnl := h.1
  have HR := Lib.hid (fun w => rnright_any nd w)
  have HZ := Lib.hid (fun w => rzero_any nd w)
  obtain ⟨H, hH⟩ : ∃ H, H = w.heap.size := ⟨_, rfl⟩
  have HH := Lib.hid hH
  have hc := heap_alloc_new w (.cells (rpCells e n da dl dc na nl nc nd) 45)
  have hE0 := (Ext.refl w).alloc (.cells (rpCells e n da dl dc na nl nc nd) 45)
  rw [← hH] at hc hE0 ⊢
  have HS := Lib.hid (fun w => rshort_fn n w)
  have hcs : e < 0 ∨ (¬ e < 0 ∧ 255 < e) ∨ (¬ e < 0 ∧ ¬ 255 < e ∧ shortI n = false) ∨ (¬ e < 0 ∧ ¬ 255 < e ∧ shortI n = true ∧ (65535 : Int) < (dl : Int)) ∨ (¬ e < 0 ∧ ¬ 255 < e ∧ shortI n = true ∧ ¬ (65535 : Int) < (dl : Int) ∧ (255 : Int) < (nl : Int)) ∨
      (¬ e < 0 ∧ ¬ 255 < e ∧ shortI n = true ∧ ¬ (65535 : Int) < (dl : Int) ∧ ¬ (255 : Int) < (nl : Int) ∧ ¬ nd.isZero ∧ ¬ nd.Ok) := by
    by_cases hz : nd.isZero <;> by_cases ho : nd.Ok <;> cases hs : shortI n <;> simp [hs, hz, ho] at hF ⊢ <;> omega
  have C := cells_at hc
  unfold rpCells at *
  have c0 := C 0; have c1 := C 1; have c2 := C 2; have c3 := C 3; have c4 := C 4; have c5 := C 5; have c6 := C 6; have c7 := C 7; have c8 := C 8; have c9 := C 9
  simp only [List.getElem?_toArray, List.getElem?_cons_zero, List.getElem?_cons_succ] at c0 c1 c2 c3 c4 c5 c6 c7 c8 c9
  clear C h hF
  have HC := Lib.hid (And.intro c4 (And.intro c5 (And.intro c6 (And.intro c7 (And.intro c8 c9)))))
  rcases hcs with g1 | ⟨g1, g2⟩ | ⟨g1, g2, g3⟩ | ⟨g1, g2, g3, g4⟩ | ⟨g1, g2, g3, g4, g5⟩ | ⟨g1, g2, g3, g4, g5, g6, g7⟩
  · clear hc
    go_enter Try.func21, Try.ntmps21
    go_upto_region 1 with fail
    rw [← hH]
    clear hH
    generalize w.alloc _ = w0 at *
    go_wp2_with fail
    go_ret2
    exact ⟨rfl, hE0.1⟩
  · clear hc
    go_enter Try.func21, Try.ntmps21
    go_upto_region 1 with fail
    rw [← hH]
    clear hH
    generalize w.alloc _ = w0 at *
    go_wp2_with fail
    go_ret2
    exact ⟨rfl, hE0.1⟩
  · rw [g3] at HS
    clear g3 hc
    go_enter Try.func21, Try.ntmps21
    go_upto_region 1 with fail
    rw [← hH]
    clear hH
    generalize w.alloc _ = w0 at *
    go_wp2_with fail
    refine (HS.out _).mono ?_
    rintro e' w1 ⟨rfl, rfl⟩
    go_wp2_with fail
    go_ret2
    exact ⟨rfl, hE0.1⟩
  · rw [g3] at HS
    clear g3 hc
    go_enter Try.func21, Try.ntmps21
    go_upto_region 1 with fail
    rw [← hH]
    clear hH
    generalize w.alloc _ = w0 at *
    go_wp2_with fail
    refine (HS.out _).mono ?_
    rintro e' w1 ⟨rfl, rfl⟩
    go_wp2_with fail
    go_ret2
    exact ⟨rfl, hE0.1⟩
  · rw [g3] at HS
    clear g3 hc
    go_enter Try.func21, Try.ntmps21
    go_upto_region 1 with fail
    rw [← hH]
    clear hH
    generalize w.alloc _ = w0 at *
    go_wp2_with fail
    refine (HS.out _).mono ?_
    rintro e' w1 ⟨rfl, rfl⟩
    go_wp2_with fail
    go_ret2
    exact ⟨rfl, hE0.1⟩
  · rw [g3] at HS
    rw [decide_eq_false g6] at HZ
    rw [decide_eq_false g7] at HR
    clear g3 g6 g7
    unfold Nd.cells at HZ HR
    have hlt := lt_of_heap hc
    clear hc
    go_enter Try.func21, Try.ntmps21
    go_upto_region 1 with fail
    rw [← hH]
    clear hH
    generalize w.alloc _ = w0 at *
    go_wp2_with fail
    refine (HS.out _).mono ?_
    rintro e' w1 ⟨rfl, rfl⟩
    go_wp2_with fail
    refine (HZ.out _).mono ?_
    rintro e' w1 ⟨rfl, hb1⟩
    have hE1 := hE0.step hb1
    clear c0 c1 c2 c3 c4 c5 c6 c7 c8 c9
    have c4 := (hb1.cell (p := ⟨H, 4, none⟩) hlt).trans HC.out.1
    have c5 := (hb1.cell (p := ⟨H, 5, none⟩) hlt).trans HC.out.2.1
    have c6 := (hb1.cell (p := ⟨H, 6, none⟩) hlt).trans HC.out.2.2.1
    have c7 := (hb1.cell (p := ⟨H, 7, none⟩) hlt).trans HC.out.2.2.2.1
    have c8 := (hb1.cell (p := ⟨H, 8, none⟩) hlt).trans HC.out.2.2.2.2.1
    have c9 := (hb1.cell (p := ⟨H, 9, none⟩) hlt).trans HC.out.2.2.2.2.2
    go_wp2_with fail
    refine (HR.out _).mono ?_
    rintro e' w2 ⟨rfl, hb2⟩
    go_wp2_with fail
    go_ret2
    exact ⟨rfl, (hE1.step hb2).1⟩
set_option maxHeartbeats 8000000 in
set_option maxRecDepth 100000 in
theorem rrpenc_go (e n : Int) (da : Option Addr) (dl dc : Nat) (ds : List UInt8) (na : Option Addr) (nl nc : Nat) (ls : List (List UInt8)) (nd : Nd) (w : World) (hB : Bs w da dl dc ds) (h : Ss w na nl nc ls)
    (hF : (0 ≤ e ∧ e ≤ 255 ∧ shortI n = true ∧ dl ≤ 65535 ∧ nl ≤ 255) ∧ (nd.isZero ∨ nd.Ok)) :
    Calls Try.prog 21 #[.agg (rpCells e n da dl dc na nl nc nd)] w fun e' w' => ∃ v, e' = .returned (.tuple #[v, .int .i64 ((rpEnc ⟨e, n, ds, ls, nd⟩).2 : Nat)]) ∧ Own w' w.heap.size v (rpEnc ⟨e, n, ds, ls, nd⟩).1 ∧ Below w.heap.size w w' := by
  have hdl := hB.1
  have hnl := h.1
  have HFF := Lib.hid hF
  obtain ⟨⟨f1, f2, f3, f4, f5⟩, f7⟩ := hF
  have HS := Lib.hid (fun w => rshort_fn n w)
  rw [f3] at HS
  obtain ⟨m, rfl, hm⟩ := shortI_nat f3
  obtain ⟨x, rfl⟩ : ∃ x : Nat, e = (x : Int) := ⟨e.toNat, by omega⟩
  have HR := Lib.hid (fun (h : ¬ nd.isZero) w => by
    have := rnright_any nd w
    rw [decide_eq_true (f7.resolve_left h)] at this
    exact this)
  have HNB := Lib.hid (fun (h : ¬ nd.isZero) => nd.rbytes_eq (f7.resolve_left h))
  have HNE := Lib.hid (fun w => rnenc_any nd w)
  have HZ := Lib.hid (fun w => rzero_any nd w)
  have g1 : ¬ (x : Int) < 0 := by omega
  have g2 : ¬ 255 < (x : Int) := by omega
  have g3 : ¬ (65535 : Int) < (dl : Int) := by omega
  have g4 : ¬ (255 : Int) < (nl : Int) := by omega
  have HPOS := Lib.hid (fun (h6 : ∀ s ∈ ls, s.length ≤ 16) => show rpEnc ⟨x, m, ds, ls, nd⟩ = (Rp.bytes ⟨x, m, ds, ls, nd⟩, 0) from by
    unfold rpEnc
    rw [if_pos ⟨⟨f1, f2, f3, by simpa [hdl] using f4, by simpa [hnl] using f5⟩, h6, f7⟩])
  have HNEG := Lib.hid (fun (h6 : ¬ ∀ s ∈ ls, s.length ≤ 16) => show rpEnc ⟨x, m, ds, ls, nd⟩ = ([], 12) from by
    unfold rpEnc
    rw [if_neg fun hc => h6 hc.2.1])
  clear f1 f2 f3 f7
  generalize rpEnc ⟨x, m, ds, ls, nd⟩ = EE at *
  have HBY := Lib.hid (Rp.bytes_eq ⟨x, m, ds, ls, nd⟩)
  obtain ⟨P, hP⟩ : ∃ P, P = Rp.head ⟨x, m, ds, ls, nd⟩ := ⟨_, rfl⟩
  have hPl : P.length ≤ 65600 := by
    rw [hP]
    unfold Rp.head
    have := lenBytes_le ds
    simp only [List.length_append, be_length]
    omega
  have HP := Lib.hid hP
  have hdh : P = be x 1 ++ (be m 2 ++ (lenBytes ds ++ be nl 1)) := by rw [hP]; unfold Rp.head; simp only [hnl]; rfl
  have HPP := Lib.hid hdh
  obtain ⟨M, hM⟩ : ∃ M, M = (lenBytes ds).length := ⟨_, rfl⟩
  have hMl : M ≤ 65537 := by rw [hM]; exact lenBytes_le ds
  have HM := Lib.hid hM
  clear hP hdh hM
  have HTL : Rp.tail ⟨x, m, ds, ls, nd⟩ = [fb (!decide nd.isZero)] ++ (if nd.isZero then [] else lenBytes nd.bytes) := rfl
  have HT := Lib.hid HTL
  clear HTL
  obtain ⟨H, hH⟩ : ∃ H, H = w.heap.size := ⟨_, rfl⟩
  have HH := Lib.hid hH
  have h0 := h.alloc (.cells (rpCells x m da dl dc na nl nc nd) 45)
  have hB0 := hB.alloc (.cells (rpCells x m da dl dc na nl nc nd) 45)
  have hc := heap_alloc_new w (.cells (rpCells x m da dl dc na nl nc nd) 45)
  have hE0 := (Ext.refl w).alloc (.cells (rpCells x m da dl dc na nl nc nd) 45)
  rw [← hH] at hc hE0 ⊢
  unfold rpCells at *
  unfold Nd.cells at HZ HR HNE
  go_enter Try.func21, Try.ntmps21
  go_upto_region 1 with fail
  rw [← hH]
  clear hH
  generalize w.alloc _ = w0 at *
  have C := cells_at hc
  have c0 := C 0; have c1 := C 1; have c2 := C 2; have c3 := C 3; have c4 := C 4; have c5 := C 5; have c6 := C 6; have c7 := C 7; have c8 := C 8; have c9 := C 9
  simp only [List.getElem?_toArray, List.getElem?_cons_zero, List.getElem?_cons_succ] at c0 c1 c2 c3 c4 c5 c6 c7 c8 c9
  have hlt := lt_of_heap hc
  have HC := Lib.hid (And.intro c0 (And.intro c1 (And.intro c2 (And.intro c3 (And.intro c4 (And.intro c5 (And.intro c6 (And.intro c7 (And.intro c8 c9)))))))))
  clear C hc h hB
  obtain ⟨q, hq⟩ : ∃ q, q = w0.heap.size := ⟨_, rfl⟩
  have HQ := Lib.hid hq
  have hE00 := Ext.refl w0
  rw [← hq] at hlt hE00
  clear hq
  go_cut [43] (fun s wx => s = .bool false ∧ Ext q w0 wx)
  case first =>
    go_wp2_with fail
    refine (HS.out _).mono ?_
    rintro e' w1 ⟨rfl, rfl⟩
    go_wp2_with fail
    refine (HZ.out _).mono ?_
    rintro e' w1 ⟨rfl, hb1⟩
    have hE1 := hE00.to (hb1.mono (Nat.le_of_eq HQ.out))
    clear c0 c1 c2 c3 c4 c5 c6 c7 c8 c9 hb1
    by_cases hz : nd.isZero
    · rw [decide_eq_true hz]
      clear hz
      go_wp2_with fail
      go_meet
      exact ⟨by simp; omega, hE1⟩
    · rw [decide_eq_false hz]
      have c4 := hE1.cel hlt HC.out.2.2.2.2.1
      have c5 := hE1.cel hlt HC.out.2.2.2.2.2.1
      have c6 := hE1.cel hlt HC.out.2.2.2.2.2.2.1
      have c7 := hE1.cel hlt HC.out.2.2.2.2.2.2.2.1
      have c8 := hE1.cel hlt HC.out.2.2.2.2.2.2.2.2.1
      have c9 := hE1.cel hlt HC.out.2.2.2.2.2.2.2.2.2
      have HR := Lib.hid (HR.out hz)
      clear hz
      go_wp2_with fail
      refine (HR.out _).mono ?_
      rintro e' w2 ⟨rfl, hb2⟩
      have hE2 := hE1.step hb2
      go_wp2_with fail
      go_meet
      exact ⟨by simp; omega, hE2⟩
  case rest =>
    obtain ⟨rfl, hE1⟩ := hcut
    clear c0 c1 c2 c3 c4 c5 c6 c7 c8 c9 hE00
    go_upto_region 3 with fail
    have c0 := hE1.cel hlt HC.out.1
    have c1 := hE1.cel hlt HC.out.2.1
    have c2 := hE1.cel hlt HC.out.2.2.1
    have c3 := hE1.cel hlt HC.out.2.2.2.1
    have hEd := hE1.drew
    have hBd : ∀ W, Ext q w0 W → Bs W da dl dc ds := fun W hx => hx.bs HQ.out.symm hB0
    have HBd := Lib.hid hBd
    clear hBd
    go_cut [4] (fun v wx => Own wx q v P ∧ Ext q w0 wx)
    case first =>
      go_region_held3 (fun w' => w'.cell? ⟨H, 0, none⟩ = some (.int .i64 (x : Int)) ∧ w'.cell? ⟨H, 1, none⟩ = some (.int .i64 (m : Int)) ∧ w'.cell? ⟨H, 2, none⟩ = some (.slice da dl dc) ∧ w'.cell? ⟨H, 3, none⟩ = some (.slice na nl nc)) (go_keep) ((first
        | (go_at_call_of 30 (Value.slice none 0 0); refine (ref_byte none 0 0 [] x _ (Bs.nil _) (by unfold big; decide)).mono ?_; rintro e w2 ⟨v2, rfl, ho2, hb2⟩; obtain ⟨a2, k2, rfl, hB2⟩ := ho2.bsn (n := 1) rfl; have hE2 := hEd.step hb2; have k0 := hE2.cel hlt HC.out.1; have k1 := hE2.cel hlt HC.out.2.1; have k2 := hE2.cel hlt HC.out.2.2.1; have k3 := hE2.cel hlt HC.out.2.2.2.1)
        | (go_at_call 35; refine (ref_short _ _ _ _ m _ hB2 (by unfold big; decide)).mono ?_; rintro e w3 ⟨v3, rfl, ho3, hb3⟩; obtain ⟨a3, k3, rfl, hB3⟩ := ho3.bsn (n := 3) rfl; have hE3 := hE2.step hb3; have k0 := hE3.cel hlt HC.out.1; have k1 := hE3.cel hlt HC.out.2.1; have k2 := hE3.cel hlt HC.out.2.2.1; have k3 := hE3.cel hlt HC.out.2.2.2.1)
        | (go_at_call 32; refine (ref_bytes _ _ _ _ da dl dc ds _ hB3 (HBd.out _ hE3) (by unfold big; decide)).mono ?_; rintro e w4 ⟨v4, rfl, ho4, hb4⟩; obtain ⟨a4, k4, rfl, hB4⟩ := ho4.bsn (n := 3 + M) (by rw [List.length_append, ← HM.out]; rfl); have hE4 := hE3.step hb4; have k0 := hE4.cel hlt HC.out.1; have k1 := hE4.cel hlt HC.out.2.1; have k2 := hE4.cel hlt HC.out.2.2.1; have k3 := hE4.cel hlt HC.out.2.2.2.1)
        | (go_at_call 30; refine (ref_byte _ _ _ _ nl _ hB4 (by unfold big; omega)).mono ?_; rintro e w5 ⟨v5, rfl, ho5, hb5⟩; have hE5 := hE4.step hb5; have k0 := hE5.cel hlt HC.out.1; have k1 := hE5.cel hlt HC.out.2.1; have k2 := hE5.cel hlt HC.out.2.2.1; have k3 := hE5.cel hlt HC.out.2.2.2.1)))
      all_goals (go_wp2_with fail; go_meet; exact ⟨by rw [HPP.out]; simpa using ho5.base hE4.2, hE5⟩)
    case rest =>
      obtain ⟨ho, hE⟩ := hcut
      clear c0 c1 c2 c3 hEd hE1
      have hSd : ∀ W, Ext q w0 W → Ss W na nl nc ls := fun W hx => h0.below (by rw [← HQ.out]; exact hx.1)
      have HSd := Lib.hid hSd
      clear hSd h0 hB0
      go_wp2_with fail
      go_loopw [4, 5] (fun v i wx => ∃ k : Nat, k ≤ nl ∧ i = .int .i64 (k : Int) ∧ (∀ j (hj : j < ls.length), j < k → ls[j].length ≤ 16) ∧ Own wx q v (P ++ namesBytes (ls.take k)) ∧ Ext q w0 wx) (fun _ i _ => nl - (intOf i).toNat)
      case atStart => exact ⟨0, by omega, rfl, by omega, by simpa [namesBytes] using ho, hE⟩
      case round =>
        obtain ⟨k, hk, rfl, hle, ho, hE⟩ := hrel
        have c3 := hE.cel hlt HC.out.2.2.2.1
        have hnb : (namesBytes (ls.take k)).length ≤ 18 * 255 := by
          have := namesBytes_len (ls.take k) (fun s hs => by
            obtain ⟨j, hj, rfl⟩ := List.getElem_of_mem hs
            rw [List.length_take] at hj
            rw [List.getElem_take]
            exact hle j (by omega) (by omega))
          rw [List.length_take] at this
          omega
        by_cases hlk : k < nl
        · obtain ⟨b, o1, rfl, hp, hc1⟩ := (HSd.out _ hE).at (by omega)
          have hkn : k < ls.length := by omega
          have c4 := hc1 k hkn
          have hk0 : (0 : Int) ≤ (k : Int) := by omega
          have hkl : (k : Int) < (nl : Int) := by omega
          have hnt := namesBytes_take ls k hkn
          have HK := Lib.hid (fun (hx : ls[k].length ≤ 16) j (hj : j < ls.length) (hjk : j < k + 1) => show ls[j].length ≤ 16 from by
            rcases Nat.lt_or_ge j k with h | h
            · exact hle j hj h
            · obtain rfl : j = k := by omega
              exact hx)
          have hf : 16 < ls[k].length → ¬ ∀ s ∈ ls, s.length ≤ 16 := fun hx hall => by have := hall _ (List.getElem_mem hkn); omega
          have HF := Lib.hid hf
          have HNT := Lib.hid hnt
          have hsz : (strOf ls[k]).size = ls[k].length := rfl
          generalize ls[k] = s at *
          clear hf hnt hc1 hle hp
          by_cases hx : 16 < s.length
          · have hx' : (16 : Int) < (s.length : Int) := by omega
            have HG := Lib.hid (HNEG.out (HF.out hx))
            clear hx
            go_wp2_with fail
            go_ret2
            rw [HG.out]
            exact ⟨_, rfl, Own.nil _ _, (hE0.to (hE.1.mono (Nat.le_of_lt hlt))).1⟩
          · have hx' : ¬ (16 : Int) < (s.length : Int) := by omega
            have kc := run_bytes s wr
            have HCB := Lib.hid (convW_below wr s)
            have HCS := Lib.hid (convW_bs wr s (by unfold maxLen; omega))
            have HK := Lib.hid (HK.out (by omega))
            have hPk : (P ++ namesBytes (ls.take k)).length ≤ 70190 := by rw [List.length_append]; omega
            generalize hXe : P ++ namesBytes (ls.take k) = X at *
            have HXE := Lib.hid hXe
            clear hXe
            obtain ⟨a6, k6, rfl, hB6⟩ := ho.bs
            clear hx hsz ho
            go_wp2_with fail
            refine (ref_bytes a6 _ k6 X _ _ _ s _ (hB6.below HCB.out) HCS.out (by unfold big; omega)).mono ?_
            rintro e' w8 ⟨v8, rfl, ho8, hb8⟩
            have hE8 := (hE.step HCB.out).step hb8
            have ho8 := ho8.base (hE.step HCB.out).2
            clear hB6 kc
            go_wp2_with fail
            go_roundw
            case rel => exact ⟨k + 1, by omega, by go_num, HK.out, by rw [HNT.out, ← List.append_assoc, HXE.out]; exact ho8, hE8⟩
            case measure => simp [intOf]; omega
        · obtain rfl : k = nl := by omega
          have hall : ∀ s ∈ ls, s.length ≤ 16 := fun s hs => by
            obtain ⟨j, hj, rfl⟩ := List.getElem_of_mem hs
            exact hle j hj (by omega)
          have HG := Lib.hid (HPOS.out hall)
          have ho7 : Own wr q u4 (P ++ namesBytes ls) := by rw [← List.take_of_length_le (l := ls) (i := k) (by omega)]; exact ho
          rw [List.take_of_length_le (by omega)] at hnb
          have hPk : (P ++ namesBytes ls).length ≤ 70190 := by rw [List.length_append]; omega
          have HHH := Lib.hid (show Rp.bytes ⟨x, m, ds, ls, nd⟩ = (P ++ namesBytes ls) ++ Rp.tail ⟨x, m, ds, ls, nd⟩ from by rw [HBY.out, ← HP.out])
          generalize P ++ namesBytes ls = X at *
          clear hall hle ho
          obtain ⟨a6, k6, rfl, hB6⟩ := ho7.bs
          clear ho7
          have c4 := hE.cel hlt HC.out.2.2.2.2.1
          have c5 := hE.cel hlt HC.out.2.2.2.2.2.1
          have c6 := hE.cel hlt HC.out.2.2.2.2.2.2.1
          have c7 := hE.cel hlt HC.out.2.2.2.2.2.2.2.1
          have c8 := hE.cel hlt HC.out.2.2.2.2.2.2.2.2.1
          have c9 := hE.cel hlt HC.out.2.2.2.2.2.2.2.2.2
          go_wp2_with fail
          refine (HZ.out _).mono ?_
          rintro e' w8 ⟨rfl, hb8⟩
          have hE8 := hE.step hb8
          have hB8 := hB6.below hb8
          clear c3 c4 c5 c6 c7 c8 c9 hB6 hE hb8
          by_cases hz : nd.isZero
          · have HT := Lib.hid (HT.out.trans (by rw [if_pos hz, decide_eq_true hz, List.append_nil]))
            rw [decide_eq_true hz] at HZ ⊢
            clear hz
            go_wp2_with fail
            refine (ref_flag a6 _ k6 X false _ hB8 (by unfold big; omega)).mono ?_
            rintro e' w9 ⟨v9, rfl, ho9, hb9⟩
            have hE9 := hE8.step hb9
            have ho9 := ho9.base hE8.2
            have c4 := hE9.cel hlt HC.out.2.2.2.2.1
            have c5 := hE9.cel hlt HC.out.2.2.2.2.2.1
            have c6 := hE9.cel hlt HC.out.2.2.2.2.2.2.1
            have c7 := hE9.cel hlt HC.out.2.2.2.2.2.2.2.1
            have c8 := hE9.cel hlt HC.out.2.2.2.2.2.2.2.2.1
            have c9 := hE9.cel hlt HC.out.2.2.2.2.2.2.2.2.2
            clear hB8 hE8 hb9
            go_wp2_with fail
            refine (HZ.out _).mono ?_
            rintro e' w10 ⟨rfl, hb10⟩
            have hE10 := hE9.step hb10
            have ho10 := ho9.below hb10
            clear c4 c5 c6 c7 c8 c9 hE9 ho9
            go_wp2_with fail
            go_ret2
            rw [HG.out]
            refine ⟨_, rfl, ?_, (hE0.to (hE10.1.mono (Nat.le_of_lt hlt))).1⟩
            rw [HHH.out, HT.out]
            exact ho10.base (Nat.le_of_lt hlt)
          · have HT := Lib.hid (HT.out.trans (by rw [if_neg hz, decide_eq_false hz]))
            have HNB := Lib.hid (HNB.out hz)
            rw [decide_eq_false hz] at HZ ⊢
            clear hz
            go_wp2_with fail
            refine (ref_flag a6 _ k6 X true _ hB8 (by unfold big; omega)).mono ?_
            rintro e' w9 ⟨v9, rfl, ho9, hb9⟩
            have hE9 := hE8.step hb9
            have ho9 := ho9.base hE8.2
            have c4 := hE9.cel hlt HC.out.2.2.2.2.1
            have c5 := hE9.cel hlt HC.out.2.2.2.2.2.1
            have c6 := hE9.cel hlt HC.out.2.2.2.2.2.2.1
            have c7 := hE9.cel hlt HC.out.2.2.2.2.2.2.2.1
            have c8 := hE9.cel hlt HC.out.2.2.2.2.2.2.2.2.1
            have c9 := hE9.cel hlt HC.out.2.2.2.2.2.2.2.2.2
            clear hB8 hE8 hb9
            go_wp2_with fail
            refine (HZ.out _).mono ?_
            rintro e' w10 ⟨rfl, hb10⟩
            have hE10 := hE9.step hb10
            have ho10 := ho9.below hb10
            clear c4 c5 c6 c7 c8 c9 hE9 ho9
            have c4 := hE10.cel hlt HC.out.2.2.2.2.1
            have c5 := hE10.cel hlt HC.out.2.2.2.2.2.1
            have c6 := hE10.cel hlt HC.out.2.2.2.2.2.2.1
            have c7 := hE10.cel hlt HC.out.2.2.2.2.2.2.2.1
            have c8 := hE10.cel hlt HC.out.2.2.2.2.2.2.2.2.1
            have c9 := hE10.cel hlt HC.out.2.2.2.2.2.2.2.2.2
            have hXl : (X ++ [fb true]).length = X.length + 1 := by simp
            obtain ⟨N, hN⟩ : ∃ N, N = X.length + 1 := ⟨_, rfl⟩
            have hNl : N ≤ 70191 := by omega
            obtain ⟨a10, k10, rfl, hB10⟩ := ho10.bsn (n := N) (by rw [hXl, hN])
            clear ho10 hN hXl
            go_wp2_with fail
            refine (HNE.out _).mono ?_
            rintro e' w11 ⟨v11, rfl, ho11, hb11⟩
            obtain ⟨a11, k11, rfl, hB11⟩ := ho11.bsn (n := 16) (Nd.rbytes_len nd)
            have hE11 := hE10.step hb11
            have hB10 := hB10.below hb11
            clear c4 c5 c6 c7 c8 c9 ho11 hE10 hb11
            go_wp2_with fail
            refine (ref_bytes a10 _ k10 _ a11 _ k11 _ _ hB10 hB11 (by unfold big; omega)).mono ?_
            rintro e' w12 ⟨v12, rfl, ho12, hb12⟩
            have hE12 := hE11.step hb12
            go_wp2_with fail
            go_ret2
            rw [HG.out]
            refine ⟨_, rfl, ?_, (hE0.to (hE12.1.mono (Nat.le_of_lt hlt))).1⟩
            rw [HHH.out, HT.out, ← HNB.out]
            have e : X ++ ([fb (!false)] ++ lenBytes nd.rbytes) = X ++ [fb true] ++ lenBytes nd.rbytes := by simp
            rw [e]
            exact ho12.base (Nat.le_trans (Nat.le_of_lt hlt) hE11.2)

/-- what the document's EncodeReply answers -/
theorem rrpenc_any (e n : Int) (da : Option Addr) (dl dc : Nat) (ds : List UInt8) (na : Option Addr) (nl nc : Nat) (ls : List (List UInt8)) (nd : Nd) (w : World) (hB : Bs w da dl dc ds) (h : Ss w na nl nc ls) :
    Calls Try.prog 21 #[.agg (rpCells e n da dl dc na nl nc nd)] w fun e' w' => ∃ v, e' = .returned (.tuple #[v, .int .i64 ((rpEnc ⟨e, n, ds, ls, nd⟩).2 : Nat)]) ∧ Own w' w.heap.size v (rpEnc ⟨e, n, ds, ls, nd⟩).1 ∧ Below w.heap.size w w' := by
  by_cases hF : (0 ≤ e ∧ e ≤ 255 ∧ shortI n = true ∧ dl ≤ 65535 ∧ nl ≤ 255) ∧ (nd.isZero ∨ nd.Ok)
  · exact rrpenc_go e n da dl dc ds na nl nc ls nd w hB h hF
  · have e1 : rpEnc ⟨e, n, ds, ls, nd⟩ = ([], 12) := by
      unfold rpEnc
      rw [if_neg]
      rintro ⟨⟨h1, h2, h3, h4, h5⟩, _, h6⟩
      exact hF ⟨⟨h1, h2, h3, by rw [← hB.1]; exact h4, by rw [← h.1]; exact h5⟩, h6⟩
    rw [e1]
    exact (rrpenc_no e n da dl dc ds na nl nc ls nd w hB.1 h hF).mono fun e' w' ⟨h1, h2⟩ => ⟨_, h1, Own.nil _ _, h2⟩
end Go.Proofs.Ytphjdlckoddgmaa
