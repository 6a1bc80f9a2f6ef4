/- The law's own function get, of chapter 4: a call on both readers. -/
import Derived.Test.YtmedamofmlkccaaRef4R
import Derived.Test.YtmedamofmlkccaaHeld
import Derived.Test.YtmedamofmlkccaaStr
import Derived.Deep.DeepCutAuto
namespace Go.Proofs.Ytmedamofmlkccaa
open Go.RowKit

theorem RR.byRd {w w' : World} {B B2 q q2 why : Nat} {rb : Option Nat} {xs ys : List UInt8} {s : List UInt8 × Nat} (h : RR w B2 q2 ys s) (hr : Rd w B q rb xs why) (hne : q ≠ q2) (hc : Chg (fun k => k = q) w w') : RR w' B2 q2 ys s := by
  have hlt := h.lt
  obtain ⟨h0, hg, a, cap, h1, h2, h3, h4, h5⟩ := h
  refine ⟨h0, hg, a, cap, (hc.block q2 hlt (fun e => hne e.symm)).trans h1, ?_, h3, h4, h5⟩
  obtain ⟨_, a', cap', r1, _⟩ := hr
  rcases Nat.eq_zero_or_pos ys.length with h0 | h0
  · exact ⟨h2.1, h2.2.1, h2.2.2.1, .inl h0⟩
  · refine hc.bs h2 (fun ad had e => ?_)
    rcases h2.2.2.2 with hz | ⟨b, off, hb, _, hcell⟩
    · omega
    · rw [had] at hb
      cases hb
      have hx := hcell 0 (by omega)
      simp only at e
      subst e
      simp only [World.cell?, r1] at hx
      match off, hx with
      | 0, hx => simp at hx
      | 1, hx => simp at hx
      | n + 2, hx => simp at hx
theorem Rd.byRR {w w' : World} {B B2 q q2 why : Nat} {rb : Option Nat} {xs ys : List UInt8} {s : List UInt8 × Nat} (hr : Rd w B q rb xs why) (h : RR w B2 q2 ys s) (hne : q ≠ q2) (hc : Chg (fun k => k = q2) w w') : Rd w' B q rb xs why := by
  have hlt := hr.lt
  obtain ⟨h0, a, cap, h1, h2, h3, h4, h5⟩ := hr
  refine ⟨h0, a, cap, (hc.block q hlt hne).trans h1, ?_, h3, h4, h5⟩
  obtain ⟨_, _, a', cap', r1, _⟩ := h
  rcases Nat.eq_zero_or_pos xs.length with h0 | h0
  · exact ⟨h2.1, h2.2.1, h2.2.2.1, .inl h0⟩
  · refine hc.bs h2 (fun ad had e => ?_)
    rcases h2.2.2.2 with hz | ⟨b, off, hb, _, hcell⟩
    · omega
    · rw [had] at hb
      cases hb
      have hx := hcell 0 (by omega)
      simp only at e
      subst e
      simp only [World.cell?, r1] at hx
      match off, hx with
      | 0, hx => simp at hx
      | 1, hx => simp at hx
      | 2, hx => simp at hx
      | n + 3, hx => simp at hx
theorem own_chg_bs {w w' : World} {B q len cap : Nat} {a : Option Addr} {val : List UInt8} (ho : Own w B (.slice a len cap) val) (hq : q < B) (hc : Chg (fun k => k = q) w w') (hB : Bs w a len cap val) : Bs w' a len cap val := by
  refine hc.bs hB (fun ad had e => ?_)
  rcases ho.parts with ⟨h1, _⟩ | ⟨g, c, h1, h2, _⟩
  · injection h1 with h1
    rw [h1] at had; cases had
  · injection h1 with h1
    rw [h1] at had; cases had
    simp only at e
    omega
theorem rdBytes_left (s : List UInt8 × Nat) : (rdBytes s).2.1.length ≤ s.1.length := Nat.le_trans (rdRaw_left _ _) (rdRaw_left s 2)
theorem rdFlag_left (s : List UInt8 × Nat) : (rdFlag s).2.1.length ≤ s.1.length := by
  unfold rdFlag
  split
  · exact rdRaw_left s 1
  · exact rdRaw_left s 1

set_option maxHeartbeats 4000000 in
set_option maxRecDepth 100000 in
theorem get_any (p p2 q q2 : Nat) (rb : Option Nat) (ys : List UInt8) (s : List UInt8 × Nat) (kind : Int) (N : Nat) (v : Value) (w : World) (hR : Rd w p q rb s.1 s.2) (hl : s.1.length ≤ big) (hW : RR w p2 q2 ys s) (hne : q ≠ q2) :
    Calls Try.prog 30 #[.pointer (some ⟨q, 0, none⟩), .pointer (some ⟨q2, 0, none⟩), .agg #[.int .i64 kind, .int .u64 (N : Int), v]] w fun e w' => e = .returned (.bool true) ∧ ∃ T : List UInt8 × Nat, Rd w' p q rb T.1 T.2 ∧ T.1.length ≤ big ∧ RR w' p2 q2 ys T ∧ Chg (fun k => k = q ∨ k = q2) w w' := by
  have D := cell_new w #[.int .i64 kind, .int .u64 (N : Int), v] 39
  have c0 := D 0; have c1 := D 1
  simp only [List.getElem?_toArray, List.getElem?_cons_zero, List.getElem?_cons_succ] at c0 c1
  have hC1w : Chg (fun k => k = q ∨ k = q2) w (w.alloc (.cells #[.int .i64 kind, .int .u64 (N : Int), v] 39)) := (Chg.refl _ _).alloc _
  have hR1 := hR.below ((Below.refl _ _).alloc (Nat.le_refl _) (.cells #[.int .i64 kind, .int .u64 (N : Int), v] 39))
  have hW1 := hW.chg ((Below.refl _ _).alloc (Nat.le_refl _) (.cells #[.int .i64 kind, .int .u64 (N : Int), v] 39))
  clear D hR hW
  go_enter Try.func30, Try.ntmps30
  go_upto_region 1 with fail
  generalize w.alloc (.cells #[.int .i64 kind, .int .u64 (N : Int), v] 39) = w1 at *
  by_cases h1 : kind = 1
  · subst h1
    have hC1 := Lib.hid (rbyte_any p q rb s w1 hR1 hl)
    have hC2 := Lib.hid (fun w h => rref_byte p2 q2 ys s w h)
    have hTl : (rdByte s).2.1.length ≤ big := Nat.le_trans (rdRaw_left s 1) hl
    generalize (rdByte s).1 = val at *
    generalize (rdByte s).2 = T at *
    go_wp2_with fail
    refine hC1.out.mono ?_
    rintro e w2 ⟨rfl, hP⟩
    have hW2 := hW1.byRd hR1 hne hP.2
    have hR2 := hP.1
    have hC2' := hC1w.trans hP.2 (fun k _ h => Or.inl h)
    clear hC1 hP hW1 hR1
    go_wp2_with fail
    refine (hC2.out _ hW2).mono ?_
    rintro e w3 ⟨rfl, hP⟩
    have hR2 := hR2.byRR hW2 hne hP.2
    have hW2 := hP.1
    have hC3 : Chg (fun k => k = q ∨ k = q2) w w3 := hC2'.trans hP.2 (fun k _ h => Or.inr h)
    clear hC2 hP hC2'
    obtain ⟨hR3, hW3⟩ : Rd w3 p q rb T.1 T.2 ∧ RR w3 p2 q2 ys T := ⟨hR2, hW2⟩
    go_wp2_with fail
    refine (rleft_any p q rb T _ hR3).mono ?_
    rintro e w4 ⟨rfl, rfl⟩
    go_wp2_with fail
    refine (rref_left p2 q2 ys T _ hW3).mono ?_
    rintro e w4 ⟨rfl, hb4⟩
    have hR4 := hR3.below hb4
    have hW4 := hW3.chg hb4
    have hC4 := hC3.step hb4
    go_wp2_with fail
    refine (rend_any p q rb T _ hR4).mono ?_
    rintro e w5 ⟨rfl, rfl⟩
    go_wp2_with fail
    refine (rref_end p2 q2 ys T _ hW4).mono ?_
    rintro e w5 ⟨rfl, hb5⟩
    go_wp2_with fail
    go_ret
    exact ⟨rfl, T, hR4.below hb5, hTl, hW4.chg hb5, hC4.step hb5⟩
  have h1 : (kind == 1) = false := by rw [beq_eq_false_iff_ne]; exact h1
  by_cases h2 : kind = 2
  · subst h2
    have hC1 := Lib.hid (rshort_any p q rb s w1 hR1 hl)
    have hC2 := Lib.hid (fun w h => rref_short p2 q2 ys s w h)
    have hTl : (rdShort s).2.1.length ≤ big := Nat.le_trans (rdRaw_left s 2) hl
    generalize (rdShort s).1 = val at *
    generalize (rdShort s).2 = T at *
    go_wp2_with fail
    refine hC1.out.mono ?_
    rintro e w2 ⟨rfl, hP⟩
    have hW2 := hW1.byRd hR1 hne hP.2
    have hR2 := hP.1
    have hC2' := hC1w.trans hP.2 (fun k _ h => Or.inl h)
    clear hC1 hP hW1 hR1
    go_wp2_with fail
    refine (hC2.out _ hW2).mono ?_
    rintro e w3 ⟨rfl, hP⟩
    have hR2 := hR2.byRR hW2 hne hP.2
    have hW2 := hP.1
    have hC3 : Chg (fun k => k = q ∨ k = q2) w w3 := hC2'.trans hP.2 (fun k _ h => Or.inr h)
    clear hC2 hP hC2'
    obtain ⟨hR3, hW3⟩ : Rd w3 p q rb T.1 T.2 ∧ RR w3 p2 q2 ys T := ⟨hR2, hW2⟩
    go_wp2_with fail
    refine (rleft_any p q rb T _ hR3).mono ?_
    rintro e w4 ⟨rfl, rfl⟩
    go_wp2_with fail
    refine (rref_left p2 q2 ys T _ hW3).mono ?_
    rintro e w4 ⟨rfl, hb4⟩
    have hR4 := hR3.below hb4
    have hW4 := hW3.chg hb4
    have hC4 := hC3.step hb4
    go_wp2_with fail
    refine (rend_any p q rb T _ hR4).mono ?_
    rintro e w5 ⟨rfl, rfl⟩
    go_wp2_with fail
    refine (rref_end p2 q2 ys T _ hW4).mono ?_
    rintro e w5 ⟨rfl, hb5⟩
    go_wp2_with fail
    go_ret
    exact ⟨rfl, T, hR4.below hb5, hTl, hW4.chg hb5, hC4.step hb5⟩
  have h2 : (kind == 2) = false := by rw [beq_eq_false_iff_ne]; exact h2
  by_cases h3 : kind = 3
  · subst h3
    have hC1 := Lib.hid (rlong_any p q rb s w1 hR1 hl)
    have hC2 := Lib.hid (fun w h => rref_long p2 q2 ys s w h)
    have hTl : (rdLong s).2.1.length ≤ big := Nat.le_trans (rdRaw_left s 8) hl
    generalize (rdLong s).1 = val at *
    generalize (rdLong s).2 = T at *
    go_wp2_with fail
    refine hC1.out.mono ?_
    rintro e w2 ⟨rfl, hP⟩
    have hW2 := hW1.byRd hR1 hne hP.2
    have hR2 := hP.1
    have hC2' := hC1w.trans hP.2 (fun k _ h => Or.inl h)
    clear hC1 hP hW1 hR1
    go_wp2_with fail
    refine (hC2.out _ hW2).mono ?_
    rintro e w3 ⟨rfl, hP⟩
    have hR2 := hR2.byRR hW2 hne hP.2
    have hW2 := hP.1
    have hC3 : Chg (fun k => k = q ∨ k = q2) w w3 := hC2'.trans hP.2 (fun k _ h => Or.inr h)
    clear hC2 hP hC2'
    obtain ⟨hR3, hW3⟩ : Rd w3 p q rb T.1 T.2 ∧ RR w3 p2 q2 ys T := ⟨hR2, hW2⟩
    go_wp2_with fail
    refine (rleft_any p q rb T _ hR3).mono ?_
    rintro e w4 ⟨rfl, rfl⟩
    go_wp2_with fail
    refine (rref_left p2 q2 ys T _ hW3).mono ?_
    rintro e w4 ⟨rfl, hb4⟩
    have hR4 := hR3.below hb4
    have hW4 := hW3.chg hb4
    have hC4 := hC3.step hb4
    go_wp2_with fail
    refine (rend_any p q rb T _ hR4).mono ?_
    rintro e w5 ⟨rfl, rfl⟩
    go_wp2_with fail
    refine (rref_end p2 q2 ys T _ hW4).mono ?_
    rintro e w5 ⟨rfl, hb5⟩
    go_wp2_with fail
    go_ret
    exact ⟨rfl, T, hR4.below hb5, hTl, hW4.chg hb5, hC4.step hb5⟩
  have h3 : (kind == 3) = false := by rw [beq_eq_false_iff_ne]; exact h3
  by_cases h4 : kind = 4
  · subst h4
    have hC1 := Lib.hid (rflag_any p q rb s w1 hR1 hl)
    have hC2 := Lib.hid (fun w h => rref_flag p2 q2 ys s w h)
    have hTl : (rdFlag s).2.1.length ≤ big := Nat.le_trans (rdFlag_left s) hl
    generalize (rdFlag s).1 = val at *
    generalize (rdFlag s).2 = T at *
    go_wp2_with fail
    refine hC1.out.mono ?_
    rintro e w2 ⟨rfl, hP⟩
    have hW2 := hW1.byRd hR1 hne hP.2
    have hR2 := hP.1
    have hC2' := hC1w.trans hP.2 (fun k _ h => Or.inl h)
    clear hC1 hP hW1 hR1
    go_wp2_with fail
    refine (hC2.out _ hW2).mono ?_
    rintro e w3 ⟨rfl, hP⟩
    have hR2 := hR2.byRR hW2 hne hP.2
    have hW2 := hP.1
    have hC3 : Chg (fun k => k = q ∨ k = q2) w w3 := hC2'.trans hP.2 (fun k _ h => Or.inr h)
    clear hC2 hP hC2'
    obtain ⟨hR3, hW3⟩ : Rd w3 p q rb T.1 T.2 ∧ RR w3 p2 q2 ys T := ⟨hR2, hW2⟩
    go_wp2_with fail
    refine (rleft_any p q rb T _ hR3).mono ?_
    rintro e w4 ⟨rfl, rfl⟩
    go_wp2_with fail
    refine (rref_left p2 q2 ys T _ hW3).mono ?_
    rintro e w4 ⟨rfl, hb4⟩
    have hR4 := hR3.below hb4
    have hW4 := hW3.chg hb4
    have hC4 := hC3.step hb4
    go_wp2_with fail
    refine (rend_any p q rb T _ hR4).mono ?_
    rintro e w5 ⟨rfl, rfl⟩
    go_wp2_with fail
    refine (rref_end p2 q2 ys T _ hW4).mono ?_
    rintro e w5 ⟨rfl, hb5⟩
    go_wp2_with fail
    go_ret
    exact ⟨rfl, T, hR4.below hb5, hTl, hW4.chg hb5, hC4.step hb5⟩
  have h4 : (kind == 4) = false := by rw [beq_eq_false_iff_ne]; exact h4
  by_cases h5 : kind = 5
  · subst h5
    have HC1 := Lib.hid (fun w h => rbytes_any p q rb s w h hl)
    have HC2 := Lib.hid (fun w h => rref_bytes p2 q2 ys s w h)
    have hTl : (rdBytes s).2.1.length ≤ big := Nat.le_trans (rdBytes_left s) hl
    generalize (rdBytes s).1 = val at *
    generalize (rdBytes s).2 = T at *
    go_upto_region 14 with fail
    have hR1d := hR1.below (Below.refl _ _).drew
    have hW1d := hW1.chg (Below.refl _ _).drew
    have hC1d := hC1w.drew
    clear hR1 hW1
    refine wp_region_held_drew (S := (fun _ => True)) (by kernel_rfl) ?_ (fun hHeld => ?_)
    · first | trivial | exact hs2
    refine held_take (i := 0) (v := ?_) 55 rfl (by kernel_rfl) (by kernel_rfl) (by kernel_rfl) (fun _ _ _ h => h) rfl (by assumption) (Or.inl ⟨by rfl, ?_⟩) ?_
    rotate_left
    · intro w hSw; (try dsimp only at hSw); go_simp; (try with_reducible rfl)
    simp only [List.set_cons_zero, List.set_cons_succ]
    refine held_take (i := 3) (v := ?_) 58 rfl (by kernel_rfl) (by kernel_rfl) (by kernel_rfl) (fun _ _ _ h => h) rfl (by assumption) (Or.inl ⟨by rfl, ?_⟩) ?_
    rotate_left
    · intro w hSw; (try dsimp only at hSw); go_simp; (try with_reducible rfl)
    simp only [List.set_cons_zero, List.set_cons_succ]
    refine wpAnyH_ready (rs := [1]) (by kernel_rfl) (by simp) ?_
    refine AllReadyH.cons rfl (fun K hK => ?_) AllReadyH.nil
    go_simp
    refine (HC1.out _ hR1d).mono ?_
    rintro e w2 ⟨v2, rfl, ho2, hP⟩
    obtain ⟨a2, k2, rfl, hB2⟩ := ho2.bs
    have hs2 := run_string hB2
    have hW2 := hW1d.byRd hR1d hne hP.2
    have hR2 := hP.1
    have hC2' := hC1d.trans hP.2 (fun k _ h => Or.inl h)
    have hown2 := ho2
    go_wp2_with fail
    refine hK.out _ _ ?_ (fun hHeld2 => ?_)
    · first | trivial | exact hs2
    clear hK hHeld K
    refine wpAnyH_mono (S' := (fun w' => (convert 26 9 (.slice a2 val.length k2)).run Try.prog w' = .ok (.string (strOf val)) w')) (fun _ _ => trivial) _ _ _ _ ?_
    have hHeld : ((fun w' => (convert 26 9 (.slice a2 val.length k2)).run Try.prog w' = .ok (.string (strOf val)) w')) _ := hs2
    clear hHeld2
    refine held_take (i := 2) (v := ?_) 57 rfl (by kernel_rfl) (by kernel_rfl) (by kernel_rfl) (fun _ _ _ h => h) rfl (by assumption) (Or.inl ⟨by rfl, ?_⟩) ?_
    rotate_left
    · intro w hSw; (try dsimp only at hSw); go_simp; (try with_reducible rfl)
    simp only [List.set_cons_zero, List.set_cons_succ]
    refine wpAnyH_ready (rs := [4]) (by kernel_rfl) (by simp) ?_
    refine AllReadyH.cons rfl (fun K hK => ?_) AllReadyH.nil
    go_simp
    refine (HC2.out _ hW2).mono ?_
    rintro e w3 ⟨v3, rfl, ho3, hP⟩
    obtain ⟨a3, k3, rfl, hB3⟩ := ho3.bs
    have hs3 := run_string hB3
    have hs2 := run_string (own_chg_bs ho2 hW1d.lt hP.2 hB2)
    have hR2 := hR2.byRR hW2 hne hP.2
    have hW2 := hP.1
    have hC3 : Chg (fun k => k = q ∨ k = q2) w w3 := hC2'.trans hP.2 (fun k _ h => Or.inr h)
    go_wp2_with fail
    refine hK.out _ _ ?_ (fun hHeld2 => ?_)
    · first | trivial | exact hs2
    clear hK hHeld K
    refine wpAnyH_mono (S' := (fun w' => ((convert 26 9 (.slice a2 val.length k2)).run Try.prog w' = .ok (.string (strOf val)) w') ∧ (convert 26 9 (.slice a3 val.length k3)).run Try.prog w' = .ok (.string (strOf val)) w')) (fun _ h => h.1) _ _ _ _ ?_
    have hHeld : ((fun w' => ((convert 26 9 (.slice a2 val.length k2)).run Try.prog w' = .ok (.string (strOf val)) w') ∧ (convert 26 9 (.slice a3 val.length k3)).run Try.prog w' = .ok (.string (strOf val)) w')) _ := ⟨hs2, hs3⟩
    clear hHeld2
    refine held_take (i := 5) (v := ?_) 60 rfl (by kernel_rfl) (by kernel_rfl) (by kernel_rfl) (fun _ _ _ h => h) rfl (by assumption) (Or.inl ⟨by rfl, ?_⟩) ?_
    rotate_left
    · intro w hSw; (try dsimp only at hSw); go_simp; (try with_reducible rfl)
    simp only [List.set_cons_zero, List.set_cons_succ]
    refine held_take (i := 6) (v := ?_) 61 rfl (by kernel_rfl) (by kernel_rfl) (by kernel_rfl) (fun _ _ _ h => h) rfl (by assumption) (Or.inl ⟨by rfl, ?_⟩) ?_
    rotate_left
    · intro w hSw; (try dsimp only at hSw); go_simp; (try with_reducible rfl)
    simp only [List.set_cons_zero, List.set_cons_succ]
    refine held_take (i := 7) (v := ?_) 7 rfl (by kernel_rfl) (by kernel_rfl) (by kernel_rfl) (fun _ _ _ h => h) rfl (by assumption) (Or.inl ⟨by rfl, ?_⟩) ?_
    rotate_left
    · intro w hSw; (try dsimp only at hSw); go_simp; (try with_reducible rfl)
    simp only [List.set_cons_zero, List.set_cons_succ]
    refine wpAnyH_done (by kernel_rfl) ?_ _
    obtain ⟨hR3, hW3⟩ : Rd w3 p q rb T.1 T.2 ∧ RR w3 p2 q2 ys T := ⟨hR2, hW2⟩
    go_wp2_with fail
    refine (rleft_any p q rb T _ hR3).mono ?_
    rintro e w4 ⟨rfl, rfl⟩
    go_wp2_with fail
    refine (rref_left p2 q2 ys T _ hW3).mono ?_
    rintro e w4 ⟨rfl, hb4⟩
    have hR4 := hR3.below hb4
    have hW4 := hW3.chg hb4
    have hC4 := hC3.step hb4
    go_wp2_with fail
    refine (rend_any p q rb T _ hR4).mono ?_
    rintro e w5 ⟨rfl, rfl⟩
    go_wp2_with fail
    refine (rref_end p2 q2 ys T _ hW4).mono ?_
    rintro e w5 ⟨rfl, hb5⟩
    go_wp2_with fail
    go_ret
    exact ⟨rfl, T, hR4.below hb5, hTl, hW4.chg hb5, hC4.step hb5⟩
  have h5 : (kind == 5) = false := by rw [beq_eq_false_iff_ne]; exact h5
  obtain ⟨n, hn⟩ : ∃ n : Int, n = ((N % 20 : Nat) : Int) - 2 := ⟨_, rfl⟩
  have hNm : (N : Int).tmod 20 = ((N % 20 : Nat) : Int) := by rw [Int.tmod_eq_emod_of_nonneg (by omega)]; omega
  have hwr : IntKind.i64.wrap (((N % 20 : Nat) : Int) - 2) = n := by rw [IntWalk.i64_in _ (by omega)]; exact hn.symm
  have hn2 : n ≤ 65535 := by omega
  have hN20 : N % 20 < 20 := Nat.mod_lt _ (by decide)
  generalize N % 20 = N20 at *
  clear hn
  have HC1 := Lib.hid (fun w h => rraw_any p q rb s.1 s.2 n w h hl)
  have HC2 := Lib.hid (fun w h => rref_raw p2 q2 ys s.1 s.2 n w h hn2)
  have hTl : (rdRaw (s.1, s.2) n).2.1.length ≤ big := Nat.le_trans (rdRaw_left s n) hl
  generalize (rdRaw (s.1, s.2) n).1 = val at *
  generalize (rdRaw (s.1, s.2) n).2 = T at *
  go_upto_region 4 with fail
  have hR1d := hR1.below (Below.refl _ _).drew
  have hW1d := hW1.chg (Below.refl _ _).drew
  have hC1d := hC1w.drew
  clear hR1 hW1
  refine wp_region_held_drew (S := (fun _ => True)) (by kernel_rfl) ?_ (fun hHeld => ?_)
  · first | trivial | exact hs2
  refine held_take (i := 0) (v := ?_) 16 rfl (by kernel_rfl) (by kernel_rfl) (by kernel_rfl) (fun _ _ _ h => h) rfl (by assumption) (Or.inl ⟨by rfl, ?_⟩) ?_
  rotate_left
  · intro w hSw; (try dsimp only at hSw); go_simp; (try with_reducible rfl)
  simp only [List.set_cons_zero, List.set_cons_succ]
  refine held_take (i := 1) (v := ?_) 17 rfl (by kernel_rfl) (by kernel_rfl) (by kernel_rfl) (fun _ _ _ h => h) rfl (by assumption) (Or.inl ⟨by rfl, ?_⟩) ?_
  rotate_left
  · intro w hSw; (try dsimp only at hSw); go_simp; (try with_reducible rfl)
  simp only [List.set_cons_zero, List.set_cons_succ]
  refine held_take (i := 4) (v := ?_) 20 rfl (by kernel_rfl) (by kernel_rfl) (by kernel_rfl) (fun _ _ _ h => h) rfl (by assumption) (Or.inl ⟨by rfl, ?_⟩) ?_
  rotate_left
  · intro w hSw; (try dsimp only at hSw); go_simp; (try with_reducible rfl)
  simp only [List.set_cons_zero, List.set_cons_succ]
  refine held_take (i := 5) (v := ?_) 21 rfl (by kernel_rfl) (by kernel_rfl) (by kernel_rfl) (fun _ _ _ h => h) rfl (by assumption) (Or.inl ⟨by rfl, ?_⟩) ?_
  rotate_left
  · intro w hSw; (try dsimp only at hSw); go_simp; (try with_reducible rfl)
  simp only [List.set_cons_zero, List.set_cons_succ]
  refine wpAnyH_ready (rs := [2]) (by kernel_rfl) (by simp) ?_
  refine AllReadyH.cons rfl (fun K hK => ?_) AllReadyH.nil
  go_simp
  refine (HC1.out _ hR1d).mono ?_
  rintro e w2 ⟨v2, rfl, ho2, hP⟩
  obtain ⟨a2, k2, rfl, hB2⟩ := ho2.bs
  have hs2 := run_string hB2
  have hW2 := hW1d.byRd hR1d hne hP.2
  have hR2 := hP.1
  have hC2' := hC1d.trans hP.2 (fun k _ h => Or.inl h)
  have hown2 := ho2
  go_wp2_with fail
  refine hK.out _ _ ?_ (fun hHeld2 => ?_)
  · first | trivial | exact hs2
  clear hK hHeld K
  refine wpAnyH_mono (S' := (fun w' => (convert 26 9 (.slice a2 val.length k2)).run Try.prog w' = .ok (.string (strOf val)) w')) (fun _ _ => trivial) _ _ _ _ ?_
  have hHeld : ((fun w' => (convert 26 9 (.slice a2 val.length k2)).run Try.prog w' = .ok (.string (strOf val)) w')) _ := hs2
  clear hHeld2
  refine held_take (i := 3) (v := ?_) 19 rfl (by kernel_rfl) (by kernel_rfl) (by kernel_rfl) (fun _ _ _ h => h) rfl (by assumption) (Or.inl ⟨by rfl, ?_⟩) ?_
  rotate_left
  · intro w hSw; (try dsimp only at hSw); go_simp; (try with_reducible rfl)
  simp only [List.set_cons_zero, List.set_cons_succ]
  refine wpAnyH_ready (rs := [6]) (by kernel_rfl) (by simp) ?_
  refine AllReadyH.cons rfl (fun K hK => ?_) AllReadyH.nil
  go_simp
  refine (HC2.out _ hW2).mono ?_
  rintro e w3 ⟨v3, rfl, ho3, hP⟩
  obtain ⟨a3, k3, rfl, hB3⟩ := ho3.bs
  have hs3 := run_string hB3
  have hs2 := run_string (own_chg_bs ho2 hW1d.lt hP.2 hB2)
  have hR2 := hR2.byRR hW2 hne hP.2
  have hW2 := hP.1
  have hC3 : Chg (fun k => k = q ∨ k = q2) w w3 := hC2'.trans hP.2 (fun k _ h => Or.inr h)
  go_wp2_with fail
  refine hK.out _ _ ?_ (fun hHeld2 => ?_)
  · first | trivial | exact hs2
  clear hK hHeld K
  refine wpAnyH_mono (S' := (fun w' => ((convert 26 9 (.slice a2 val.length k2)).run Try.prog w' = .ok (.string (strOf val)) w') ∧ (convert 26 9 (.slice a3 val.length k3)).run Try.prog w' = .ok (.string (strOf val)) w')) (fun _ h => h.1) _ _ _ _ ?_
  have hHeld : ((fun w' => ((convert 26 9 (.slice a2 val.length k2)).run Try.prog w' = .ok (.string (strOf val)) w') ∧ (convert 26 9 (.slice a3 val.length k3)).run Try.prog w' = .ok (.string (strOf val)) w')) _ := ⟨hs2, hs3⟩
  clear hHeld2
  refine held_take (i := 7) (v := ?_) 23 rfl (by kernel_rfl) (by kernel_rfl) (by kernel_rfl) (fun _ _ _ h => h) rfl (by assumption) (Or.inl ⟨by rfl, ?_⟩) ?_
  rotate_left
  · intro w hSw; (try dsimp only at hSw); go_simp; (try with_reducible rfl)
  simp only [List.set_cons_zero, List.set_cons_succ]
  refine held_take (i := 8) (v := ?_) 24 rfl (by kernel_rfl) (by kernel_rfl) (by kernel_rfl) (fun _ _ _ h => h) rfl (by assumption) (Or.inl ⟨by rfl, ?_⟩) ?_
  rotate_left
  · intro w hSw; (try dsimp only at hSw); go_simp; (try with_reducible rfl)
  simp only [List.set_cons_zero, List.set_cons_succ]
  refine held_take (i := 9) (v := ?_) 7 rfl (by kernel_rfl) (by kernel_rfl) (by kernel_rfl) (fun _ _ _ h => h) rfl (by assumption) (Or.inl ⟨by rfl, ?_⟩) ?_
  rotate_left
  · intro w hSw; (try dsimp only at hSw); go_simp; (try with_reducible rfl)
  simp only [List.set_cons_zero, List.set_cons_succ]
  refine wpAnyH_done (by kernel_rfl) ?_ _
  obtain ⟨hR3, hW3⟩ : Rd w3 p q rb T.1 T.2 ∧ RR w3 p2 q2 ys T := ⟨hR2, hW2⟩
  go_wp2_with fail
  refine (rleft_any p q rb T _ hR3).mono ?_
  rintro e w4 ⟨rfl, rfl⟩
  go_wp2_with fail
  refine (rref_left p2 q2 ys T _ hW3).mono ?_
  rintro e w4 ⟨rfl, hb4⟩
  have hR4 := hR3.below hb4
  have hW4 := hW3.chg hb4
  have hC4 := hC3.step hb4
  go_wp2_with fail
  refine (rend_any p q rb T _ hR4).mono ?_
  rintro e w5 ⟨rfl, rfl⟩
  go_wp2_with fail
  refine (rref_end p2 q2 ys T _ hW4).mono ?_
  rintro e w5 ⟨rfl, hb5⟩
  go_wp2_with fail
  go_ret
  exact ⟨rfl, T, hR4.below hb5, hTl, hW4.chg hb5, hC4.step hb5⟩
end Go.Proofs.Ytmedamofmlkccaa
