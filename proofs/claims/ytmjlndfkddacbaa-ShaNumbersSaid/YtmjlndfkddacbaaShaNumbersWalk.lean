/- The walk of ShaNumbers. -/
import Derived.Test.YtmjlndfkddacbaaShaKnown
import Derived.Test.YtmjlndfkddacbaaShaRefOf
import Derived.Test.YtmjlndfkddacbaaHeld
namespace Go.Proofs.Ytmjlndfkddacbaa
open Go.RowKit

theorem shalen_b (B p : Nat) (g : Option Nat) (xs : List UInt8) (n : Nat) (w : World) (h : Strm w B p g xs) (hn : xs.length = n) :
    Calls Try.prog 25 #[.pointer (some ⟨p, 0, none⟩)] w fun e w' => e = .returned (.int .i64 (n : Int)) ∧ Below w.heap.size w w' := by
  subst hn
  exact (shalen_any B p g xs w h).mono fun e w' ⟨h1, h2⟩ => ⟨h1, h2 ▸ Below.refl _ _⟩

theorem Strm.weaken' {w : World} {B B' p : Nat} {g : Option Nat} {xs : List UInt8} (h : Strm w B' p g xs) (hB : B ≤ B') : Strm w B p g xs := by
  obtain ⟨h0, v, h1, h2, h3, h4⟩ := h
  exact ⟨Nat.le_trans hB h0, v, h1, h2.weaken hB, h3, h4⟩

set_option maxHeartbeats 4000000 in
set_option maxRecDepth 100000 in
theorem ShaNumbers_walk (w : World) :
    Calls Try.prog 9 #[] w fun e w' => e = .returned (.bool true) ∧ Below w.heap.size w w' := by
  have hE := Ext.refl w
  obtain ⟨H, hH⟩ : ∃ H, H = w.heap.size := ⟨_, rfl⟩
  rw [← hH] at hE ⊢
  have HH := Lib.hid hH
  clear hH
  have z1 : ∀ L : List UInt8, (!(strOf L).toList == (strOf L).toList) = false := fun L => by simp
  go_enter Try.func9, Try.ntmps9
  go_upto_block 0 with fail
  go_cut [2] (fun _ wr => Ext H w wr)
  case first =>
    go_wp2_with fail
    go_loopw [1, 2] (fun b i wr => ∃ (k : Nat) (xs : List UInt8), i = .int .i64 (k : Int) ∧ k ≤ 300 ∧ xs.length = k ∧ Own wr H b xs ∧ Ext H w wr) (fun _ i _ => 300 - (intOf i).toNat)
    case atStart => exact ⟨0, [], rfl, by omega, rfl, Own.nil _ _, hE⟩
    case round =>
      obtain ⟨k, xs, rfl, hk, hxl, hO, hE1⟩ := hrel
      clear hE
      by_cases hlt : k < 300
      · obtain ⟨a, c, rfl, hX⟩ := hO.bsn hxl
        have HXL := Lib.hid hxl
        have hE := hE1
        have hxl3 : xs.length ≤ 2000000 := by omega
        clear hxl hE1
        have e1 : (k : Int) < 300 := by omega
        have i1 : IntKind.i64.wrap ((k : Int) * 7) = (k : Int) * 7 := IntWalk.i64_in _ (by omega)
        have hx7 : ((k : Int) * 7) % 256 = ((UInt8.ofNat (k * 7)).toNat : Int) := by rw [u8_of]; omega
        have HX7 := Lib.hid hx7
        generalize UInt8.ofNat (k * 7) = y at *
        clear hx7
        go_upto_region 5 with fail
        go_cut [15] (fun s wx => ∃ b, s = .bool b ∧ wr = wx)
        case first =>
          go_wp2_with fail
          all_goals (go_meet; exact ⟨_, rfl, rfl⟩)
        case rest =>
          obtain ⟨b, rfl, rfl⟩ := hcut
          cases b with
          | true =>
            go_upto_region 6 with fail
            go_cut [42] (fun s wx => s = .bool false ∧ Bs wx a k c xs ∧ Own wx H (.slice a k c) xs ∧ Ext H w wx)
            case first =>
              obtain ⟨wd, hwd⟩ : ∃ wd, wd = wr.drew := ⟨_, rfl⟩
              have hb : Below wr.heap.size wr wd := by rw [hwd]; exact (Below.refl _ _).drew
              have hX := hX.below hb
              have hO := hO.below hb
              have hE := hE.step hb
              clear hb
              refine held_start (by kernel_rfl) (fun hHeld => ?_)
              rw [← hwd] at hHeld ⊢
              clear hwd
              refine held_take (i := 0) (v := ?_) 16 rfl (by kernel_rfl) (by kernel_rfl) (by kernel_rfl) (fun _ _ _ h => h) rfl (by assumption) (Or.inl ⟨by rfl, ?_⟩) ?_
              rotate_left
              · intro w hSw; go_simp; (try with_reducible rfl)
              simp only [List.set_cons_zero, List.set_cons_succ]
              refine held_take (i := 3) (v := ?_) 19 rfl (by kernel_rfl) (by kernel_rfl) (by kernel_rfl) (fun _ _ _ h => h) rfl (by assumption) (Or.inl ⟨by rfl, ?_⟩) ?_
              rotate_left
              · intro w hSw; go_simp; (try with_reducible rfl)
              simp only [List.set_cons_zero, List.set_cons_succ]
              refine wpAnyH_ready (rs := [1]) (by kernel_rfl) (by simp) ?_
              refine (AllReadyH.cons rfl (fun K hK => ?_) AllReadyH.nil)
              go_simp
              refine (shasum_any _ _ _ _ _ (hX.below hHeld) (by omega)).mono ?_
              rintro e w1x ⟨v1, rfl, ho1, hb⟩
              have hbt := HB.trans hHeld hb
              have hX := hX.below hbt
              have hO := hO.below hbt
              have hE := hE.step hbt
              obtain ⟨a1, c1, rfl, hB1⟩ := ho1.bsn (n := 32) (sha_length _)
              go_wp2_with fail
              refine hK.out _ _ hbt (fun _ => held_next hbt (fun hHeld2 => ?_))
              clear hK hHeld hb hbt K
              have hHeld := hHeld2
              clear hHeld2
              refine held_take (i := 2) (v := ?_) 18 rfl (by kernel_rfl) (by kernel_rfl) (by kernel_rfl) (fun _ _ _ h => h) rfl (by assumption) (Or.inl ⟨by rfl, ?_⟩) ?_
              rotate_left
              · intro w hSw; have hs := run_string (hB1.below hSw); go_simp; (try with_reducible rfl)
              simp only [List.set_cons_zero, List.set_cons_succ]
              refine wpAnyH_ready (rs := [4]) (by kernel_rfl) (by simp) ?_
              refine (AllReadyH.cons rfl (fun K hK => ?_) AllReadyH.nil)
              go_simp
              refine (rsum_any _ _ _ _ _ (hX.below hHeld) (by omega)).mono ?_
              rintro e w2x ⟨v4, rfl, ho4, hb⟩
              have hbt := HB.trans hHeld hb
              have hX := hX.below hbt
              have hO := hO.below hbt
              have hE := hE.step hbt
              have hB1 := hB1.below hbt
              obtain ⟨a4, c4, rfl, hB4⟩ := ho4.bsn (n := 32) (sha_length _)
              go_wp2_with fail
              refine hK.out _ _ hbt (fun _ => held_next hbt (fun hHeld2 => ?_))
              clear hK hHeld hb hbt K
              have hHeld := hHeld2
              clear hHeld2
              refine held_take (i := 5) (v := ?_) 21 rfl (by kernel_rfl) (by kernel_rfl) (by kernel_rfl) (fun _ _ _ h => h) rfl (by assumption) (Or.inl ⟨by rfl, ?_⟩) ?_
              rotate_left
              · intro w hSw; have hs := run_string (hB4.below hSw); go_simp; (try with_reducible rfl)
              simp only [List.set_cons_zero, List.set_cons_succ]
              refine held_take (i := 6) (v := ?_) 22 rfl (by kernel_rfl) (by kernel_rfl) (by kernel_rfl) (fun _ _ _ h => h) rfl (by assumption) (Or.inl ⟨by rfl, ?_⟩) ?_
              rotate_left
              · intro w hSw; go_simp; (try with_reducible rfl)
              simp only [List.set_cons_zero, List.set_cons_succ]
              refine held_take (i := 7) (v := ?_) 23 rfl (by kernel_rfl) (by kernel_rfl) (by kernel_rfl) (fun _ _ _ h => h) rfl (by assumption) (Or.inl ⟨by rfl, ?_⟩) ?_
              rotate_left
              · intro w hSw; go_simp; (try with_reducible rfl)
              simp only [List.set_cons_zero, List.set_cons_succ]
              refine held_take (i := 8) (v := ?_) 24 rfl (by kernel_rfl) (by kernel_rfl) (by kernel_rfl) (fun _ _ _ h => h) rfl (by assumption) (Or.inl ⟨by rfl, ?_⟩) ?_
              rotate_left
              · intro w hSw; go_simp; (try with_reducible rfl)
              simp only [List.set_cons_zero, List.set_cons_succ]
              refine held_take (i := 11) (v := ?_) 27 rfl (by kernel_rfl) (by kernel_rfl) (by kernel_rfl) (fun _ _ _ h => h) rfl (by assumption) (Or.inl ⟨by rfl, ?_⟩) ?_
              rotate_left
              · intro w hSw; go_simp; (try with_reducible rfl)
              simp only [List.set_cons_zero, List.set_cons_succ]
              refine wpAnyH_ready (rs := [9]) (by kernel_rfl) (by simp) ?_
              refine (AllReadyH.cons rfl (fun K hK => ?_) AllReadyH.nil)
              go_simp
              refine (shaleaf_any _ _ _ _ _ (hX.below hHeld) (by omega)).mono ?_
              rintro e w3x ⟨v9, rfl, ho9, hb⟩
              have hbt := HB.trans hHeld hb
              have hX := hX.below hbt
              have hO := hO.below hbt
              have hE := hE.step hbt
              have hB1 := hB1.below hbt
              have hB4 := hB4.below hbt
              obtain ⟨a9, c9, rfl, hB9⟩ := ho9.bsn (n := 32) (sha_length _)
              go_wp2_with fail
              refine hK.out _ _ hbt (fun _ => held_next hbt (fun hHeld2 => ?_))
              clear hK hHeld hb hbt K
              have hHeld := hHeld2
              clear hHeld2
              refine held_take (i := 10) (v := ?_) 26 rfl (by kernel_rfl) (by kernel_rfl) (by kernel_rfl) (fun _ _ _ h => h) rfl (by assumption) (Or.inl ⟨by rfl, ?_⟩) ?_
              rotate_left
              · intro w hSw; have hs := run_string (hB9.below hSw); go_simp; (try with_reducible rfl)
              simp only [List.set_cons_zero, List.set_cons_succ]
              refine wpAnyH_ready (rs := [12]) (by kernel_rfl) (by simp) ?_
              refine (AllReadyH.cons rfl (fun K hK => ?_) AllReadyH.nil)
              go_simp
              refine (rleaf_any _ _ _ _ _ (hX.below hHeld) (by omega)).mono ?_
              rintro e w4x ⟨v12, rfl, ho12, hb⟩
              have hbt := HB.trans hHeld hb
              have hX := hX.below hbt
              have hO := hO.below hbt
              have hE := hE.step hbt
              have hB1 := hB1.below hbt
              have hB4 := hB4.below hbt
              have hB9 := hB9.below hbt
              obtain ⟨a12, c12, rfl, hB12⟩ := ho12.bsn (n := 32) (sha_length _)
              go_wp2_with fail
              refine hK.out _ _ hbt (fun _ => held_next hbt (fun hHeld2 => ?_))
              clear hK hHeld hb hbt K
              have hHeld := hHeld2
              clear hHeld2
              refine held_take (i := 13) (v := ?_) 29 rfl (by kernel_rfl) (by kernel_rfl) (by kernel_rfl) (fun _ _ _ h => h) rfl (by assumption) (Or.inl ⟨by rfl, ?_⟩) ?_
              rotate_left
              · intro w hSw; have hs := run_string (hB12.below hSw); go_simp; (try with_reducible rfl)
              simp only [List.set_cons_zero, List.set_cons_succ]
              refine held_take (i := 14) (v := ?_) 30 rfl (by kernel_rfl) (by kernel_rfl) (by kernel_rfl) (fun _ _ _ h => h) rfl (by assumption) (Or.inl ⟨by rfl, ?_⟩) ?_
              rotate_left
              · intro w hSw; go_simp; (try with_reducible rfl)
              simp only [List.set_cons_zero, List.set_cons_succ]
              refine held_take (i := 15) (v := ?_) 31 rfl (by kernel_rfl) (by kernel_rfl) (by kernel_rfl) (fun _ _ _ h => h) rfl (by assumption) (Or.inl ⟨by rfl, ?_⟩) ?_
              rotate_left
              · intro w hSw; go_simp; (try with_reducible rfl)
              simp only [List.set_cons_zero, List.set_cons_succ]
              refine held_take (i := 16) (v := ?_) 32 rfl (by kernel_rfl) (by kernel_rfl) (by kernel_rfl) (fun _ _ _ h => h) rfl (by assumption) (Or.inl ⟨by rfl, ?_⟩) ?_
              rotate_left
              · intro w hSw; go_simp; (try with_reducible rfl)
              simp only [List.set_cons_zero, List.set_cons_succ]
              refine held_take (i := 17) (v := ?_) 33 rfl (by kernel_rfl) (by kernel_rfl) (by kernel_rfl) (fun _ _ _ h => h) rfl (by assumption) (Or.inl ⟨by rfl, ?_⟩) ?_
              rotate_left
              · intro w hSw; go_simp; (try with_reducible rfl)
              simp only [List.set_cons_zero, List.set_cons_succ]
              refine held_take (i := 18) (v := ?_) 34 rfl (by kernel_rfl) (by kernel_rfl) (by kernel_rfl) (fun _ _ _ h => h) rfl (by assumption) (Or.inl ⟨by rfl, ?_⟩) ?_
              rotate_left
              · intro w hSw; go_simp; (try with_reducible rfl)
              simp only [List.set_cons_zero, List.set_cons_succ]
              refine held_take (i := 21) (v := ?_) 37 rfl (by kernel_rfl) (by kernel_rfl) (by kernel_rfl) (fun _ _ _ h => h) rfl (by assumption) (Or.inl ⟨by rfl, ?_⟩) ?_
              rotate_left
              · intro w hSw; go_simp; (try with_reducible rfl)
              simp only [List.set_cons_zero, List.set_cons_succ]
              refine held_take (i := 22) (v := ?_) 38 rfl (by kernel_rfl) (by kernel_rfl) (by kernel_rfl) (fun _ _ _ h => h) rfl (by assumption) (Or.inl ⟨by rfl, ?_⟩) ?_
              rotate_left
              · intro w hSw; go_simp; (try with_reducible rfl)
              simp only [List.set_cons_zero, List.set_cons_succ]
              refine wpAnyH_ready (rs := [19]) (by kernel_rfl) (by simp) ?_
              refine (AllReadyH.cons rfl (fun K hK => ?_) AllReadyH.nil)
              go_simp
              refine (shapair_any _ _ _ _ _ _ _ _ _ (hX.below hHeld) (hX.below hHeld) (by omega)).mono ?_
              rintro e w5x ⟨v19, rfl, ho19, hb⟩
              have hbt := HB.trans hHeld hb
              have hX := hX.below hbt
              have hO := hO.below hbt
              have hE := hE.step hbt
              have hB1 := hB1.below hbt
              have hB4 := hB4.below hbt
              have hB9 := hB9.below hbt
              have hB12 := hB12.below hbt
              obtain ⟨a19, c19, rfl, hB19⟩ := ho19.bsn (n := 32) (sha_length _)
              go_wp2_with fail
              refine hK.out _ _ hbt (fun _ => held_next hbt (fun hHeld2 => ?_))
              clear hK hHeld hb hbt K
              have hHeld := hHeld2
              clear hHeld2
              refine held_take (i := 20) (v := ?_) 36 rfl (by kernel_rfl) (by kernel_rfl) (by kernel_rfl) (fun _ _ _ h => h) rfl (by assumption) (Or.inl ⟨by rfl, ?_⟩) ?_
              rotate_left
              · intro w hSw; have hs := run_string (hB19.below hSw); go_simp; (try with_reducible rfl)
              simp only [List.set_cons_zero, List.set_cons_succ]
              refine wpAnyH_ready (rs := [23]) (by kernel_rfl) (by simp) ?_
              refine (AllReadyH.cons rfl (fun K hK => ?_) AllReadyH.nil)
              go_simp
              refine (rpair_any _ _ _ _ _ _ _ _ _ (hX.below hHeld) (hX.below hHeld) (by omega)).mono ?_
              rintro e w6x ⟨v23, rfl, ho23, hb⟩
              have hbt := HB.trans hHeld hb
              have hX := hX.below hbt
              have hO := hO.below hbt
              have hE := hE.step hbt
              have hB1 := hB1.below hbt
              have hB4 := hB4.below hbt
              have hB9 := hB9.below hbt
              have hB12 := hB12.below hbt
              have hB19 := hB19.below hbt
              obtain ⟨a23, c23, rfl, hB23⟩ := ho23.bsn (n := 32) (sha_length _)
              go_wp2_with fail
              refine hK.out _ _ hbt (fun _ => held_next hbt (fun hHeld2 => ?_))
              clear hK hHeld hb hbt K
              have hHeld := hHeld2
              clear hHeld2
              refine held_take (i := 24) (v := ?_) 40 rfl (by kernel_rfl) (by kernel_rfl) (by kernel_rfl) (fun _ _ _ h => h) rfl (by assumption) (Or.inl ⟨by rfl, ?_⟩) ?_
              rotate_left
              · intro w hSw; have hs := run_string (hB23.below hSw); go_simp; (try with_reducible rfl)
              simp only [List.set_cons_zero, List.set_cons_succ]
              refine held_take (i := 25) (v := ?_) 41 rfl (by kernel_rfl) (by kernel_rfl) (by kernel_rfl) (fun _ _ _ h => h) rfl (by assumption) (Or.inl ⟨by rfl, ?_⟩) ?_
              rotate_left
              · intro w hSw; go_simp; (try with_reducible rfl)
              simp only [List.set_cons_zero, List.set_cons_succ]
              refine held_take (i := 26) (v := ?_) 42 rfl (by kernel_rfl) (by kernel_rfl) (by kernel_rfl) (fun _ _ _ h => h) rfl (by assumption) (Or.inl ⟨by rfl, ?_⟩) ?_
              rotate_left
              · intro w hSw; go_simp; (try with_reducible rfl)
              simp only [List.set_cons_zero, List.set_cons_succ]
              refine wpAnyH_done (by kernel_rfl) ?_ _
              go_wp2_with fail
              go_meet
              exact ⟨rfl, hX.below hHeld, hO.below hHeld, hE.step hHeld⟩
            case rest =>
              obtain ⟨rfl, hX2, hO, hE⟩ := hcut
              clear hX hX2
              go_wp2_with (at_builtin; refine append_byte hE hO _ y ?hb hxl3 rfl _ _ rfl rfl rfl ?_)
              case hb => exact HX7.out
              intro v3 w3 hE3 ho3 _
              go_wp2_with fail
              go_roundw
              case rel => exact ⟨k + 1, xs ++ [y], by go_num, by omega, by rw [List.length_append, HXL.out]; rfl, ho3, hE3⟩
              case measure => simp [intOf]; omega
          | false =>
            clear hX
            go_wp2_with (at_builtin; refine append_byte hE hO _ y ?hb2 hxl3 rfl _ _ rfl rfl rfl ?_)
            case hb2 => exact HX7.out
            intro v3 w3 hE3 ho3 _
            go_wp2_with fail
            go_roundw
            case rel => exact ⟨k + 1, xs ++ [y], by go_num, by omega, by rw [List.length_append, HXL.out]; rfl, ho3, hE3⟩
            case measure => simp [intOf]; omega
      · obtain rfl : k = 300 := by omega
        go_wp2_with fail
        go_meet
        exact hE1
  case rest =>
    have hE1 := hcut
    clear hcut hE
    go_wp2_with fail
    refine (shanew_any wc).mono ?_
    rintro e w1 ⟨p, rfl, hS, hb⟩
    have hE := hE1.step hb
    have hS := hS.weaken' hE1.2
    clear hb hE1
    go_upto_region 10 with fail
    obtain ⟨wd, hwd⟩ : ∃ wd, wd = w1.drew := ⟨_, rfl⟩
    have hb : Below w1.heap.size w1 wd := by rw [hwd]; exact (Below.refl _ _).drew
    have hS := hS.below hb
    have hE := hE.step hb
    clear hb
    refine held_start (by kernel_rfl) (fun hHeld => ?_)
    rw [← hwd] at hHeld ⊢
    clear hwd
    refine held_take (i := 0) (v := ?_) 50 rfl (by kernel_rfl) (by kernel_rfl) (by kernel_rfl) (fun _ _ _ h => h) rfl (by assumption) (Or.inl ⟨by rfl, ?_⟩) ?_
    rotate_left
    · intro w hSw; go_simp; (try with_reducible rfl)
    simp only [List.set_cons_zero, List.set_cons_succ]
    refine held_take (i := 1) (v := ?_) 51 rfl (by kernel_rfl) (by kernel_rfl) (by kernel_rfl) (fun _ _ _ h => h) rfl (by assumption) (Or.inl ⟨by rfl, ?_⟩) ?_
    rotate_left
    · intro w hSw; go_simp; (try with_reducible rfl)
    simp only [List.set_cons_zero, List.set_cons_succ]
    refine held_take (i := 2) (v := ?_) 52 rfl (by kernel_rfl) (by kernel_rfl) (by kernel_rfl) (fun _ _ _ h => h) rfl (by assumption) (Or.inl ⟨by rfl, ?_⟩) ?_
    rotate_left
    · intro w hSw; go_simp; (try with_reducible rfl)
    simp only [List.set_cons_zero, List.set_cons_succ]
    refine held_take (i := 3) (v := ?_) 53 rfl (by kernel_rfl) (by kernel_rfl) (by kernel_rfl) (fun _ _ _ h => h) rfl (by assumption) (Or.inl ⟨by rfl, ?_⟩) ?_
    rotate_left
    · intro w hSw; go_simp; (try with_reducible rfl)
    simp only [List.set_cons_zero, List.set_cons_succ]
    refine wpAnyH_ready (rs := [4]) (by kernel_rfl) (by simp) ?_
    refine (AllReadyH.cons rfl (fun K hK => ?_) AllReadyH.nil)
    go_simp
    refine (shalen_b H p none [] 0 _ (hS.below hHeld) rfl).mono ?_
    rintro e w1x ⟨rfl, hb⟩
    have hbt := HB.trans hHeld hb
    have hS := hS.below hbt
    have hE := hE.step hbt
    go_wp2_with fail
    refine hK.out _ _ hbt (fun _ => held_next hbt (fun hHeld2 => ?_))
    clear hK hHeld hb hbt K
    have hHeld := hHeld2
    clear hHeld2
    refine held_take (i := 5) (v := ?_) 55 rfl (by kernel_rfl) (by kernel_rfl) (by kernel_rfl) (fun _ _ _ h => h) rfl (by assumption) (Or.inl ⟨by rfl, ?_⟩) ?_
    rotate_left
    · intro w hSw; go_simp; (try with_reducible rfl)
    simp only [List.set_cons_zero, List.set_cons_succ]
    refine held_take (i := 6) (v := ?_) 56 rfl (by kernel_rfl) (by kernel_rfl) (by kernel_rfl) (fun _ _ _ h => h) rfl (by assumption) (Or.inl ⟨by rfl, ?_⟩) ?_
    rotate_left
    · intro w hSw; go_simp; (try with_reducible rfl)
    simp only [List.set_cons_zero, List.set_cons_succ]
    refine held_take (i := 7) (v := ?_) 57 rfl (by kernel_rfl) (by kernel_rfl) (by kernel_rfl) (fun _ _ _ h => h) rfl (by assumption) (Or.inl ⟨by rfl, ?_⟩) ?_
    rotate_left
    · intro w hSw; go_simp; (try with_reducible rfl)
    simp only [List.set_cons_zero, List.set_cons_succ]
    refine held_take (i := 8) (v := ?_) 58 rfl (by kernel_rfl) (by kernel_rfl) (by kernel_rfl) (fun _ _ _ h => h) rfl (by assumption) (Or.inl ⟨by rfl, ?_⟩) ?_
    rotate_left
    · intro w hSw; go_simp; (try with_reducible rfl)
    simp only [List.set_cons_zero, List.set_cons_succ]
    refine wpAnyH_ready (rs := [9]) (by kernel_rfl) (by simp) ?_
    refine (AllReadyH.cons rfl (fun K hK => ?_) AllReadyH.nil)
    go_simp
    refine (shasum_st H p none [] _ (hS.below hHeld) (by simp)).mono ?_
    rintro e w2x ⟨v9, rfl, ho9, hb⟩
    have hbt := HB.trans hHeld hb
    have hS := hS.below hbt
    have hE := hE.step hbt
    obtain ⟨a9, c9, rfl, hB9⟩ := ho9.bsn (n := 32) (sha_length _)
    go_wp2_with fail
    refine hK.out _ _ hbt (fun _ => held_next hbt (fun hHeld2 => ?_))
    clear hK hHeld hb hbt K
    have hHeld := hHeld2
    clear hHeld2
    refine held_take (i := 10) (v := ?_) 60 rfl (by kernel_rfl) (by kernel_rfl) (by kernel_rfl) (fun _ _ _ h => h) rfl (by assumption) (Or.inl ⟨by rfl, ?_⟩) ?_
    rotate_left
    · intro w hSw; have hs := run_string (hB9.below hSw); go_simp; (try with_reducible rfl)
    simp only [List.set_cons_zero, List.set_cons_succ]
    refine wpAnyH_ready (rs := [11]) (by kernel_rfl) (by simp) ?_
    refine (AllReadyH.cons rfl (fun K hK => ?_) AllReadyH.nil)
    go_simp
    refine (rsum_any none 0 0 [] _ (Bs.nil _) (by omega)).mono ?_
    rintro e w3x ⟨v11, rfl, ho11, hb⟩
    have hbt := HB.trans hHeld hb
    have hS := hS.below hbt
    have hE := hE.step hbt
    have hB9 := hB9.below hbt
    obtain ⟨a11, c11, rfl, hB11⟩ := ho11.bsn (n := 32) (sha_length _)
    go_wp2_with fail
    refine hK.out _ _ hbt (fun _ => held_next hbt (fun hHeld2 => ?_))
    clear hK hHeld hb hbt K
    have hHeld := hHeld2
    clear hHeld2
    refine held_take (i := 12) (v := ?_) 62 rfl (by kernel_rfl) (by kernel_rfl) (by kernel_rfl) (fun _ _ _ h => h) rfl (by assumption) (Or.inl ⟨by rfl, ?_⟩) ?_
    rotate_left
    · intro w hSw; have hs := run_string (hB11.below hSw); go_simp; (try with_reducible rfl)
    simp only [List.set_cons_zero, List.set_cons_succ]
    refine held_take (i := 13) (v := ?_) 63 rfl (by kernel_rfl) (by kernel_rfl) (by kernel_rfl) (fun _ _ _ h => h) rfl (by assumption) (Or.inl ⟨by rfl, ?_⟩) ?_
    rotate_left
    · intro w hSw; go_simp; (try with_reducible rfl)
    simp only [List.set_cons_zero, List.set_cons_succ]
    refine held_take (i := 14) (v := ?_) 64 rfl (by kernel_rfl) (by kernel_rfl) (by kernel_rfl) (fun _ _ _ h => h) rfl (by assumption) (Or.inl ⟨by rfl, ?_⟩) ?_
    rotate_left
    · intro w hSw; go_simp; (try with_reducible rfl)
    simp only [List.set_cons_zero, List.set_cons_succ]
    refine held_take (i := 15) (v := ?_) 65 rfl (by kernel_rfl) (by kernel_rfl) (by kernel_rfl) (fun _ _ _ h => h) rfl (by assumption) (Or.inl ⟨by rfl, ?_⟩) ?_
    rotate_left
    · intro w hSw; go_simp; (try with_reducible rfl)
    simp only [List.set_cons_zero, List.set_cons_succ]
    refine wpAnyH_ready (rs := [16]) (by kernel_rfl) (by simp) ?_
    refine (AllReadyH.cons rfl (fun K hK => ?_) AllReadyH.nil)
    go_simp
    refine (sha_known _).mono ?_
    rintro e w4x ⟨rfl, hb⟩
    have hbt := HB.trans hHeld hb
    have hS := hS.below hbt
    have hE := hE.step hbt
    have hB9 := hB9.below hbt
    have hB11 := hB11.below hbt
    go_wp2_with fail
    refine hK.out _ _ hbt (fun _ => held_next hbt (fun hHeld2 => ?_))
    clear hK hHeld hb hbt K
    have hHeld := hHeld2
    clear hHeld2
    refine held_take (i := 17) (v := ?_) 67 rfl (by kernel_rfl) (by kernel_rfl) (by kernel_rfl) (fun _ _ _ h => h) rfl (by assumption) (Or.inl ⟨by rfl, ?_⟩) ?_
    rotate_left
    · intro w hSw; go_simp; (try with_reducible rfl)
    simp only [List.set_cons_zero, List.set_cons_succ]
    refine held_take (i := 18) (v := ?_) 0 rfl (by kernel_rfl) (by kernel_rfl) (by kernel_rfl) (fun _ _ _ h => h) rfl (by assumption) (Or.inl ⟨by rfl, ?_⟩) ?_
    rotate_left
    · intro w hSw; go_simp; (try with_reducible rfl)
    simp only [List.set_cons_zero]
    refine wpAnyH_done (by kernel_rfl) ?_ _
    go_wp2_with fail
    go_ret
    exact ⟨rfl, (hE.step hHeld).1⟩

end Go.Proofs.Ytmjlndfkddacbaa
