/- The walk of ShaTells. -/
import Derived.Test.YtmjlndfkddacbaaShaKnown
import Derived.Test.YtmjlndfkddacbaaShaRefOf
import Derived.Test.YtmjlndfkddacbaaHeld
import Derived.Test.YtmjlndfkddacbaaCut
import Derived.Test.YtmjlndfkddacbaaWithin
import Derived.Test.YtmjlndfkddacbaaInts
import Derived.Test.YtmjlndfkddacbaaBook
namespace Go.Proofs.Ytmjlndfkddacbaa
open Go.RowKit

theorem shalen_b (B p : Nat) (g : Option Nat) (xs : List UInt8) (n : Nat) (w : World) (h : Strm w B p g xs) (hn : xs.length = n) :
    Calls Try.prog 25 #[.pointer (some ⟨p, 0, none⟩)] w fun e w' => e = .returned (.int .i64 (n : Int)) ∧ Below w.heap.size w w' := by
  subst hn
  exact (shalen_any B p g xs w h).mono fun e w' ⟨h1, h2⟩ => ⟨h1, h2 ▸ Below.refl _ _⟩
theorem Strm.weaken' {w : World} {B B' p : Nat} {g : Option Nat} {xs : List UInt8} (h : Strm w B' p g xs) (hB : B ≤ B') : Strm w B p g xs := by
  obtain ⟨h0, v, h1, h2, h3, h4⟩ := h
  exact ⟨Nat.le_trans hB h0, v, h1, h2.weaken hB, h3, h4⟩
/-- bytes that lie below the streams -/
theorem Strm.far {W : World} {B p : Nat} {g : Option Nat} {xs : List UInt8} (h : Strm W B p g xs) {k : Nat} (hk : k < B) : ¬ SS p g k := by
  intro hs
  have h0 := h.1
  rcases hs with hs | hs
  · omega
  · subst hs; have := h.row_lt.2; omega
/-- a row that is newer than the stream -/
theorem Strm.near {W : World} {B p : Nat} {g : Option Nat} {xs : List UInt8} (h : Strm W B p g xs) {k : Nat} (hk : W.heap.size ≤ k) : ¬ SS p g k := by
  intro hs
  have h0 := h.lt
  rcases hs with hs | hs
  · omega
  · subst hs; have := h.row_lt.1; omega
theorem Own.new_blk {w : World} {B n c : Nat} {a : Option Addr} {xs : List UInt8} (h : Own w B (.slice a n c) xs) (ad : Addr) (ha : a = some ad) : B ≤ ad.block := by
  rcases h.parts with ⟨e, _⟩ | ⟨g, c', e, h2, _⟩
  · injection e with e1 e2 e3; rw [ha] at e1; cases e1
  · injection e with e1 e2 e3; rw [ha] at e1; injection e1 with e1; rw [e1]; exact h2

set_option maxHeartbeats 4000000 in
set_option maxRecDepth 100000 in
theorem ShaTells_walk (v0 v1 v2 : Value) (w : World) (h0 : Arg Try.prog w 25 v0) (h1 : Arg Try.prog w 25 v1) (h2 : Arg Try.prog w 22 v2) :
    Calls Try.prog 10 #[v0, v1, v2] w fun e w' => e = .returned (.bool true) ∧ Below w.heap.size w w' := by
  obtain ⟨aa, la0, ca, xa0, rfl, hA⟩ := h0.bytes Try.underlying25 Try.underlying5 (by kernel_rfl)
  obtain ⟨ab, lb0, cb, xb0, rfl, hB⟩ := h1.bytes Try.underlying25 Try.underlying5 (by kernel_rfl)
  obtain ⟨ac, lc, cc, xc, rfl, hC⟩ := h2.ints Try.underlying22 Try.underlying3 (by kernel_rfl)
  clear h0 h1 h2
  have HCa := Lib.hid (fun W => cut_any 400 aa la0 ca W hA.2.1 (by omega))
  have HCb := Lib.hid (fun W => cut_any 200 ab lb0 cb W hB.2.1 (by omega))
  have hA := hA.take (k := min la0 400) (Nat.min_le_left _ _)
  have hB := hB.take (k := min lb0 200) (Nat.min_le_left _ _)
  have hla : min la0 400 ≤ 400 := Nat.min_le_right _ _
  have hlb : min lb0 200 ≤ 200 := Nat.min_le_right _ _
  generalize min la0 400 = la at *
  generalize min lb0 200 = lb at *
  generalize xa0.take la = xa at *
  generalize xb0.take lb = xb at *
  have hE := Ext.refl w
  obtain ⟨H, hH⟩ : ∃ H, H = w.heap.size := ⟨_, rfl⟩
  rw [← hH] at hE ⊢
  have HH := Lib.hid hH
  clear hH
  have HXa := Lib.hid hA
  have HXc := Lib.hid hC
  have hca : la ≤ ca := hA.2.1
  have HXl : Hid (xa.length = la) := Lib.hid hA.1
  clear hC
  have z1 : ∀ L : List UInt8, (!(strOf L).toList == (strOf L).toList) = false := fun L => by simp
  go_enter Try.func10, Try.ntmps10
  go_wp2_with fail
  refine (HCa.out _).mono ?_
  rintro e wq ⟨rfl, rfl⟩
  go_wp2_with fail
  refine (HCb.out _).mono ?_
  rintro e wq ⟨rfl, rfl⟩
  go_upto_region 3 with fail
  obtain ⟨w1, hw1⟩ : ∃ w1, w1 = w := ⟨_, rfl⟩
  have hE : Ext H w w1 := by rw [hw1]; exact hE
  rw [← hw1] at hA hB
  conv => arg 5; rw [← hw1]
  clear hw1
  go_cut [42] (fun s wr => s = .bool false ∧ Ext H w wr)
  case first =>
    obtain ⟨wd, hwd⟩ : ∃ wd, wd = w1.drew := ⟨_, rfl⟩
    have hb : Below w1.heap.size w1 wd := by rw [hwd]; exact (Below.refl _ _).drew
    have hA := hA.below hb
    have hB := hB.below hb
    have hE := hE.step hb
    clear hb
    refine held_start (by kernel_rfl) (fun hHeld => ?_)
    rw [← hwd] at hHeld ⊢
    clear hwd
    refine held_take (i := 0) (v := ?_) 16 rfl (by kernel_rfl) (by kernel_rfl) (by kernel_rfl) (fun _ _ _ h => h) rfl (by assumption) (Or.inl ⟨by rfl, ?_⟩) ?_
    rotate_left
    · intro w hSw; go_simp; (try with_reducible rfl)
    simp only [List.set_cons_zero, List.set_cons_succ]
    refine held_take (i := 3) (v := ?_) 19 rfl (by kernel_rfl) (by kernel_rfl) (by kernel_rfl) (fun _ _ _ h => h) rfl (by assumption) (Or.inl ⟨by rfl, ?_⟩) ?_
    rotate_left
    · intro w hSw; go_simp; (try with_reducible rfl)
    simp only [List.set_cons_zero, List.set_cons_succ]
    refine wpAnyH_ready (rs := [1]) (by kernel_rfl) (by simp) ?_
    refine (AllReadyH.cons rfl (fun K hK => ?_) AllReadyH.nil)
    go_simp
    refine (shasum_any _ _ _ _ _ (hA.below hHeld) (by omega)).mono ?_
    rintro e w1x ⟨v1, rfl, ho1, hb⟩
    have hbt := HB.trans hHeld hb
    have hA := hA.below hbt
    have hB := hB.below hbt
    have hE := hE.step hbt
    obtain ⟨a1, c1, rfl, hB1⟩ := ho1.bsn (n := 32) (sha_length _)
    go_wp2_with fail
    refine hK.out _ _ hbt (fun _ => held_next hbt (fun hHeld2 => ?_))
    clear hK hHeld hb hbt K
    have hHeld := hHeld2
    clear hHeld2
    refine held_take (i := 2) (v := ?_) 18 rfl (by kernel_rfl) (by kernel_rfl) (by kernel_rfl) (fun _ _ _ h => h) rfl (by assumption) (Or.inl ⟨by rfl, ?_⟩) ?_
    rotate_left
    · intro w hSw; have hs := run_string (hB1.below hSw); go_simp; (try with_reducible rfl)
    simp only [List.set_cons_zero, List.set_cons_succ]
    refine wpAnyH_ready (rs := [4]) (by kernel_rfl) (by simp) ?_
    refine (AllReadyH.cons rfl (fun K hK => ?_) AllReadyH.nil)
    go_simp
    refine (rsum_any _ _ _ _ _ (hA.below hHeld) (by omega)).mono ?_
    rintro e w2x ⟨v4, rfl, ho4, hb⟩
    have hbt := HB.trans hHeld hb
    have hA := hA.below hbt
    have hB := hB.below hbt
    have hE := hE.step hbt
    have hB1 := hB1.below hbt
    obtain ⟨a4, c4, rfl, hB4⟩ := ho4.bsn (n := 32) (sha_length _)
    go_wp2_with fail
    refine hK.out _ _ hbt (fun _ => held_next hbt (fun hHeld2 => ?_))
    clear hK hHeld hb hbt K
    have hHeld := hHeld2
    clear hHeld2
    refine held_take (i := 5) (v := ?_) 21 rfl (by kernel_rfl) (by kernel_rfl) (by kernel_rfl) (fun _ _ _ h => h) rfl (by assumption) (Or.inl ⟨by rfl, ?_⟩) ?_
    rotate_left
    · intro w hSw; have hs := run_string (hB4.below hSw); go_simp; (try with_reducible rfl)
    simp only [List.set_cons_zero, List.set_cons_succ]
    refine held_take (i := 6) (v := ?_) 22 rfl (by kernel_rfl) (by kernel_rfl) (by kernel_rfl) (fun _ _ _ h => h) rfl (by assumption) (Or.inl ⟨by rfl, ?_⟩) ?_
    rotate_left
    · intro w hSw; go_simp; (try with_reducible rfl)
    simp only [List.set_cons_zero, List.set_cons_succ]
    refine held_take (i := 7) (v := ?_) 23 rfl (by kernel_rfl) (by kernel_rfl) (by kernel_rfl) (fun _ _ _ h => h) rfl (by assumption) (Or.inl ⟨by rfl, ?_⟩) ?_
    rotate_left
    · intro w hSw; go_simp; (try with_reducible rfl)
    simp only [List.set_cons_zero, List.set_cons_succ]
    refine held_take (i := 8) (v := ?_) 24 rfl (by kernel_rfl) (by kernel_rfl) (by kernel_rfl) (fun _ _ _ h => h) rfl (by assumption) (Or.inl ⟨by rfl, ?_⟩) ?_
    rotate_left
    · intro w hSw; go_simp; (try with_reducible rfl)
    simp only [List.set_cons_zero, List.set_cons_succ]
    refine held_take (i := 11) (v := ?_) 27 rfl (by kernel_rfl) (by kernel_rfl) (by kernel_rfl) (fun _ _ _ h => h) rfl (by assumption) (Or.inl ⟨by rfl, ?_⟩) ?_
    rotate_left
    · intro w hSw; go_simp; (try with_reducible rfl)
    simp only [List.set_cons_zero, List.set_cons_succ]
    refine wpAnyH_ready (rs := [9]) (by kernel_rfl) (by simp) ?_
    refine (AllReadyH.cons rfl (fun K hK => ?_) AllReadyH.nil)
    go_simp
    refine (shaleaf_any _ _ _ _ _ (hA.below hHeld) (by omega)).mono ?_
    rintro e w3x ⟨v9, rfl, ho9, hb⟩
    have hbt := HB.trans hHeld hb
    have hA := hA.below hbt
    have hB := hB.below hbt
    have hE := hE.step hbt
    have hB1 := hB1.below hbt
    have hB4 := hB4.below hbt
    obtain ⟨a9, c9, rfl, hB9⟩ := ho9.bsn (n := 32) (sha_length _)
    go_wp2_with fail
    refine hK.out _ _ hbt (fun _ => held_next hbt (fun hHeld2 => ?_))
    clear hK hHeld hb hbt K
    have hHeld := hHeld2
    clear hHeld2
    refine held_take (i := 10) (v := ?_) 26 rfl (by kernel_rfl) (by kernel_rfl) (by kernel_rfl) (fun _ _ _ h => h) rfl (by assumption) (Or.inl ⟨by rfl, ?_⟩) ?_
    rotate_left
    · intro w hSw; have hs := run_string (hB9.below hSw); go_simp; (try with_reducible rfl)
    simp only [List.set_cons_zero, List.set_cons_succ]
    refine wpAnyH_ready (rs := [12]) (by kernel_rfl) (by simp) ?_
    refine (AllReadyH.cons rfl (fun K hK => ?_) AllReadyH.nil)
    go_simp
    refine (rleaf_any _ _ _ _ _ (hA.below hHeld) (by omega)).mono ?_
    rintro e w4x ⟨v12, rfl, ho12, hb⟩
    have hbt := HB.trans hHeld hb
    have hA := hA.below hbt
    have hB := hB.below hbt
    have hE := hE.step hbt
    have hB1 := hB1.below hbt
    have hB4 := hB4.below hbt
    have hB9 := hB9.below hbt
    obtain ⟨a12, c12, rfl, hB12⟩ := ho12.bsn (n := 32) (sha_length _)
    go_wp2_with fail
    refine hK.out _ _ hbt (fun _ => held_next hbt (fun hHeld2 => ?_))
    clear hK hHeld hb hbt K
    have hHeld := hHeld2
    clear hHeld2
    refine held_take (i := 13) (v := ?_) 29 rfl (by kernel_rfl) (by kernel_rfl) (by kernel_rfl) (fun _ _ _ h => h) rfl (by assumption) (Or.inl ⟨by rfl, ?_⟩) ?_
    rotate_left
    · intro w hSw; have hs := run_string (hB12.below hSw); go_simp; (try with_reducible rfl)
    simp only [List.set_cons_zero, List.set_cons_succ]
    refine held_take (i := 14) (v := ?_) 30 rfl (by kernel_rfl) (by kernel_rfl) (by kernel_rfl) (fun _ _ _ h => h) rfl (by assumption) (Or.inl ⟨by rfl, ?_⟩) ?_
    rotate_left
    · intro w hSw; go_simp; (try with_reducible rfl)
    simp only [List.set_cons_zero, List.set_cons_succ]
    refine held_take (i := 15) (v := ?_) 31 rfl (by kernel_rfl) (by kernel_rfl) (by kernel_rfl) (fun _ _ _ h => h) rfl (by assumption) (Or.inl ⟨by rfl, ?_⟩) ?_
    rotate_left
    · intro w hSw; go_simp; (try with_reducible rfl)
    simp only [List.set_cons_zero, List.set_cons_succ]
    refine held_take (i := 16) (v := ?_) 32 rfl (by kernel_rfl) (by kernel_rfl) (by kernel_rfl) (fun _ _ _ h => h) rfl (by assumption) (Or.inl ⟨by rfl, ?_⟩) ?_
    rotate_left
    · intro w hSw; go_simp; (try with_reducible rfl)
    simp only [List.set_cons_zero, List.set_cons_succ]
    refine held_take (i := 17) (v := ?_) 33 rfl (by kernel_rfl) (by kernel_rfl) (by kernel_rfl) (fun _ _ _ h => h) rfl (by assumption) (Or.inl ⟨by rfl, ?_⟩) ?_
    rotate_left
    · intro w hSw; go_simp; (try with_reducible rfl)
    simp only [List.set_cons_zero, List.set_cons_succ]
    refine held_take (i := 18) (v := ?_) 34 rfl (by kernel_rfl) (by kernel_rfl) (by kernel_rfl) (fun _ _ _ h => h) rfl (by assumption) (Or.inl ⟨by rfl, ?_⟩) ?_
    rotate_left
    · intro w hSw; go_simp; (try with_reducible rfl)
    simp only [List.set_cons_zero, List.set_cons_succ]
    refine held_take (i := 21) (v := ?_) 37 rfl (by kernel_rfl) (by kernel_rfl) (by kernel_rfl) (fun _ _ _ h => h) rfl (by assumption) (Or.inl ⟨by rfl, ?_⟩) ?_
    rotate_left
    · intro w hSw; go_simp; (try with_reducible rfl)
    simp only [List.set_cons_zero, List.set_cons_succ]
    refine held_take (i := 22) (v := ?_) 38 rfl (by kernel_rfl) (by kernel_rfl) (by kernel_rfl) (fun _ _ _ h => h) rfl (by assumption) (Or.inl ⟨by rfl, ?_⟩) ?_
    rotate_left
    · intro w hSw; go_simp; (try with_reducible rfl)
    simp only [List.set_cons_zero, List.set_cons_succ]
    refine wpAnyH_ready (rs := [19]) (by kernel_rfl) (by simp) ?_
    refine (AllReadyH.cons rfl (fun K hK => ?_) AllReadyH.nil)
    go_simp
    refine (shapair_any _ _ _ _ _ _ _ _ _ (hA.below hHeld) (hB.below hHeld) (by omega)).mono ?_
    rintro e w5x ⟨v19, rfl, ho19, hb⟩
    have hbt := HB.trans hHeld hb
    have hA := hA.below hbt
    have hB := hB.below hbt
    have hE := hE.step hbt
    have hB1 := hB1.below hbt
    have hB4 := hB4.below hbt
    have hB9 := hB9.below hbt
    have hB12 := hB12.below hbt
    obtain ⟨a19, c19, rfl, hB19⟩ := ho19.bsn (n := 32) (sha_length _)
    go_wp2_with fail
    refine hK.out _ _ hbt (fun _ => held_next hbt (fun hHeld2 => ?_))
    clear hK hHeld hb hbt K
    have hHeld := hHeld2
    clear hHeld2
    refine held_take (i := 20) (v := ?_) 36 rfl (by kernel_rfl) (by kernel_rfl) (by kernel_rfl) (fun _ _ _ h => h) rfl (by assumption) (Or.inl ⟨by rfl, ?_⟩) ?_
    rotate_left
    · intro w hSw; have hs := run_string (hB19.below hSw); go_simp; (try with_reducible rfl)
    simp only [List.set_cons_zero, List.set_cons_succ]
    refine wpAnyH_ready (rs := [23]) (by kernel_rfl) (by simp) ?_
    refine (AllReadyH.cons rfl (fun K hK => ?_) AllReadyH.nil)
    go_simp
    refine (rpair_any _ _ _ _ _ _ _ _ _ (hA.below hHeld) (hB.below hHeld) (by omega)).mono ?_
    rintro e w6x ⟨v23, rfl, ho23, hb⟩
    have hbt := HB.trans hHeld hb
    have hA := hA.below hbt
    have hB := hB.below hbt
    have hE := hE.step hbt
    have hB1 := hB1.below hbt
    have hB4 := hB4.below hbt
    have hB9 := hB9.below hbt
    have hB12 := hB12.below hbt
    have hB19 := hB19.below hbt
    obtain ⟨a23, c23, rfl, hB23⟩ := ho23.bsn (n := 32) (sha_length _)
    go_wp2_with fail
    refine hK.out _ _ hbt (fun _ => held_next hbt (fun hHeld2 => ?_))
    clear hK hHeld hb hbt K
    have hHeld := hHeld2
    clear hHeld2
    refine held_take (i := 24) (v := ?_) 40 rfl (by kernel_rfl) (by kernel_rfl) (by kernel_rfl) (fun _ _ _ h => h) rfl (by assumption) (Or.inl ⟨by rfl, ?_⟩) ?_
    rotate_left
    · intro w hSw; have hs := run_string (hB23.below hSw); go_simp; (try with_reducible rfl)
    simp only [List.set_cons_zero, List.set_cons_succ]
    refine held_take (i := 25) (v := ?_) 41 rfl (by kernel_rfl) (by kernel_rfl) (by kernel_rfl) (fun _ _ _ h => h) rfl (by assumption) (Or.inl ⟨by rfl, ?_⟩) ?_
    rotate_left
    · intro w hSw; go_simp; (try with_reducible rfl)
    simp only [List.set_cons_zero, List.set_cons_succ]
    refine held_take (i := 26) (v := ?_) 42 rfl (by kernel_rfl) (by kernel_rfl) (by kernel_rfl) (fun _ _ _ h => h) rfl (by assumption) (Or.inl ⟨by rfl, ?_⟩) ?_
    rotate_left
    · intro w hSw; go_simp; (try with_reducible rfl)
    simp only [List.set_cons_zero, List.set_cons_succ]
    refine wpAnyH_done (by kernel_rfl) ?_ _
    go_wp2_with fail
    go_meet
    exact ⟨rfl, hE.step hHeld⟩
  case rest =>
    obtain ⟨rfl, hE⟩ := hcut
    clear hA hB
    go_wp2_with fail
    refine (shanew_any wc).mono ?_
    rintro e w2 ⟨p, rfl, hS, hb⟩
    have hS := hS.weaken' hE.2
    have hE := hE.step hb
    clear hb
    go_upto_block 0 with fail
    go_cut [8] (fun s wr => ∃ (A : Nat) (g : Option Nat), s = .int .i64 (A : Int) ∧ A ≤ la ∧ Strm wr H p g (xa.take A) ∧ Ext H w wr)
    case first =>
      go_wp2_with fail
      go_loopw [8, 9] (fun s i wr => ∃ (A k : Nat) (g : Option Nat), s = .int .i64 (A : Int) ∧ i = .int .i64 (k : Int) ∧ k ≤ 20 ∧ A ≤ la ∧ Strm wr H p g (xa.take A) ∧ Ext H w wr) (fun _ i _ => 20 - (intOf i).toNat)
      case atStart => exact ⟨0, 0, none, rfl, rfl, by omega, by omega, hS, hE⟩
      case round =>
        obtain ⟨A, k, g, rfl, rfl, hk, hA, hS1, hE1⟩ := hrel
        clear hS hE
        go_upto_region 10 with fail
        go_cut [53] (fun s wx => s = .bool (decide (k < lc ∧ k < 20)) ∧ wr = wx)
        case first =>
          by_cases h1 : k < lc
          · by_cases h2 : k < 20
            · go_wp2_with fail
              go_meet
              exact ⟨congrArg Value.bool (by rw [decide_eq_decide]; omega), rfl⟩
            · go_wp2_with fail
              go_meet
              exact ⟨congrArg Value.bool (by rw [decide_eq_decide]; omega), rfl⟩
          · go_wp2_with fail
            go_meet
            exact ⟨by rw [decide_eq_false (show ¬ (k < lc ∧ k < 20) by omega)], rfl⟩
        case rest =>
          obtain ⟨rfl, rfl⟩ := hcut
          by_cases hlt : k < lc ∧ k < 20
          · rw [decide_eq_true hlt]
            obtain ⟨hlt1, hlt2⟩ := hlt
            obtain ⟨bc, oc, rfl, hbc, hcc⟩ := HXc.out.at (by omega)
            have hck := (hE1.1.cell (p := ⟨bc, oc + k, none⟩) (by rw [HH.out]; exact hbc)).trans (hcc k (by rw [HXc.out.1]; exact hlt1))
            generalize xc[k]'(by rw [HXc.out.1]; exact hlt1) = x at *
            clear hcc
            have hwd := within_bd x 0 ((la : Int) - (A : Int)) (by omega)
            have HW := Lib.hid (fun W => within_any x 0 ((la : Int) - (A : Int)) W (by omega) (by omega) (by omega))
            obtain ⟨E, hEd⟩ : ∃ E : Nat, (E : Int) = (A : Int) + within x 0 ((la : Int) - (A : Int)) := by
              obtain ⟨d, hd⟩ := Int.eq_ofNat_of_zero_le hwd.1
              exact ⟨A + d, by rw [hd]; omega⟩
            have hdl : E ≤ la := by omega
            have f4 : A ≤ E := by omega
            have i1 : IntKind.i64.wrap ((la : Int) - (A : Int)) = (la : Int) - (A : Int) := IntWalk.i64_in _ (by omega)
            have i2 : IntKind.i64.wrap ((A : Int) + within x 0 ((la : Int) - (A : Int))) = (E : Int) := by rw [IntWalk.i64_in _ (by omega)]; omega
            generalize within x 0 ((la : Int) - (A : Int)) = W0 at *
            clear hwd hEd
            have e1 : (0 : Int) ≤ (k : Int) := by omega
            have e2 : (k : Int) < (lc : Int) := by omega
            go_wp2_with fail
            refine (HW.out _).mono ?_
            rintro e wq ⟨rfl, rfl⟩
            obtain ⟨a2, ha2⟩ : ∃ a2, (if ca = A then aa else aa.map (·.add A)) = a2 := ⟨_, rfl⟩
            obtain ⟨D, hD⟩ : ∃ D, E - A = D := ⟨_, rfl⟩
            have hM := HXa.out.mid (k := A) (d := D) (by omega)
            rw [ha2] at hM
            have HTK : Hid (xa.take A ++ (xa.drop A).take D = xa.take E) := Lib.hid (by rw [take_drop_take, ← hD, Nat.add_sub_cancel' f4])
            generalize (xa.drop A).take D = zs at *
            have HM := Lib.hid hM
            have hDl : D ≤ 400 := by omega
            have f1 : (0 : Int) ≤ (A : Int) := by omega
            have f2 : (A : Int) ≤ (E : Int) := by omega
            have f3 : (E : Int) ≤ (ca : Int) := by omega
            have f5 : E ≤ ca := by omega
            have i3 : IntKind.i64.wrap ((E : Int) - (A : Int)) = (D : Int) := by rw [IntWalk.i64_in _ (by omega)]; omega
            have HR := Lib.hid (roomy_bytes a2 (ca - A) D zs wr (hM.below (by rw [← HH.out]; exact hE1.1)) (by omega))
            clear hM HW hck
            go_wp2_with fail
            refine HR.out.mono ?_
            rintro e w1 ⟨v, rfl, hO, hb⟩
            clear HR
            obtain ⟨af, cf, rfl, hF⟩ := hO.bsn (n := D + 80) (by rw [List.length_append, List.length_replicate, HM.out.1])
            have hnb : ∀ ad, af = some ad → wr.heap.size ≤ ad.block := hO.new_blk
            have hS2 := hS1.below hb
            have hap : ∀ ad, af = some ad → ¬ SS p g ad.block := fun ad had => hS1.near (hnb ad had)
            have hE2 := hE1.step hb
            have hFt := hF.take (k := D) (by omega)
            rw [List.take_left' HM.out.1] at hFt
            have HWr := Lib.hid (shawrite_any H p g (xa.take A) af D cf zs w1 hS2 hFt (fun _ => hap) (by have := List.length_take_le A xa; omega))
            have hcf : D + 80 ≤ cf := hF.2.1
            have HF := Lib.hid (And.intro hF (And.intro hap (And.intro hE2 hS2)))
            clear hb hO hnb hS1 hE1 hFt hS2 hF hE2 hap
            have g1 : (0 : Int) ≤ (D : Int) := by omega
            have g2 : (D : Int) ≤ (cf : Int) := by omega
            go_wp2_with fail
            refine HWr.out.mono ?_
            rintro e w3 ⟨rfl, g2, hS, hC, _⟩
            rw [HTK.out] at hS
            obtain ⟨hF, hap, hE2, hS2⟩ := HF.out
            have hF := hF.chg hC (fun _ => hap)
            have hE3 := hE2.upto (hS2.belowOf hC)
            have HI := Lib.hid (intact_bytes af cf a2 (ca - A) D zs w3 hF (HM.out.below (by rw [← HH.out]; exact hE3.1)) (by omega))
            clear hE2 hS2 hap hC HWr HF HTK hF
            go_wp2_with fail
            refine HI.out.mono ?_
            rintro e w4 ⟨rfl, hb⟩
            have hS := hS.below hb
            have hE := hE3.step hb
            have hT := (HXa.out.take hdl).below (by rw [← HH.out]; exact hE.1)
            clear hE3 hb HI
            have HLE := Lib.hid (show (xa.take E).length = E by rw [List.length_take, HXl.out]; omega)
            have z2 : ((E : Int) != (E : Int)) = false := by simp
            have z3 : (!((E : Int) == (E : Int))) = false := by simp
            go_upto_region 18 with fail
            go_cut [101] (fun s wx => s = .bool false ∧ Strm wx H p g2 (xa.take E) ∧ Ext H w wx)
            case first =>
              obtain ⟨wd, hwd⟩ : ∃ wd, wd = w4.drew := ⟨_, rfl⟩
              have hb : Below w4.heap.size w4 wd := by rw [hwd]; exact (Below.refl _ _).drew
              have hT := hT.below hb
              have hS := hS.below hb
              have hE := hE.step hb
              clear hb
              refine held_start (by kernel_rfl) (fun hHeld => ?_)
              rw [← hwd] at hHeld ⊢
              clear hwd
              refine held_take (i := 0) (v := ?_) 87 rfl (by kernel_rfl) (by kernel_rfl) (by kernel_rfl) (fun _ _ _ h => h) rfl (by assumption) (Or.inl ⟨by rfl, ?_⟩) ?_
              rotate_left
              · intro w hSw; go_simp; (try with_reducible rfl)
              simp only [List.set_cons_zero, List.set_cons_succ]
              refine held_take (i := 2) (v := ?_) 89 rfl (by kernel_rfl) (by kernel_rfl) (by kernel_rfl) (fun _ _ _ h => h) rfl (by assumption) (Or.inl ⟨by rfl, ?_⟩) ?_
              rotate_left
              · intro w hSw; go_simp; (try with_reducible rfl)
              simp only [List.set_cons_zero, List.set_cons_succ]
              refine wpAnyH_ready (rs := [1]) (by kernel_rfl) (by simp) ?_
              refine (AllReadyH.cons rfl (fun K hK => ?_) AllReadyH.nil)
              go_simp
              refine (shalen_b H p g2 _ E _ (hS.below hHeld) HLE.out).mono ?_
              rintro e w1x ⟨rfl, hb⟩
              have hbt := HB.trans hHeld hb
              have hT := hT.below hbt
              have hS := hS.below hbt
              have hE := hE.step hbt
              go_wp2_with fail
              refine hK.out _ _ hbt (fun _ => held_next hbt (fun hHeld2 => ?_))
              clear hK hHeld hb hbt K
              have hHeld := hHeld2
              clear hHeld2
              refine held_take (i := 3) (v := ?_) 90 rfl (by kernel_rfl) (by kernel_rfl) (by kernel_rfl) (fun _ _ _ h => h) rfl (by assumption) (Or.inl ⟨by rfl, ?_⟩) ?_
              rotate_left
              · intro w hSw; go_simp; (try with_reducible rfl)
              simp only [List.set_cons_zero, List.set_cons_succ]
              refine held_take (i := 4) (v := ?_) 91 rfl (by kernel_rfl) (by kernel_rfl) (by kernel_rfl) (fun _ _ _ h => h) rfl (by assumption) (Or.inl ⟨by rfl, ?_⟩) ?_
              rotate_left
              · intro w hSw; go_simp; (try with_reducible rfl)
              simp only [List.set_cons_zero, List.set_cons_succ]
              refine held_take (i := 5) (v := ?_) 92 rfl (by kernel_rfl) (by kernel_rfl) (by kernel_rfl) (fun _ _ _ h => h) rfl (by assumption) (Or.inl ⟨by rfl, ?_⟩) ?_
              rotate_left
              · intro w hSw; go_simp; (try with_reducible rfl)
              simp only [List.set_cons_zero, List.set_cons_succ]
              refine held_take (i := 8) (v := ?_) 95 rfl (by kernel_rfl) (by kernel_rfl) (by kernel_rfl) (fun _ _ _ h => h) rfl (by assumption) (Or.inl ⟨by rfl, ?_⟩) ?_
              rotate_left
              · intro w hSw; go_simp; (try with_reducible rfl)
              simp only [List.set_cons_zero, List.set_cons_succ]
              refine held_take (i := 9) (v := ?_) 96 rfl (by kernel_rfl) (by kernel_rfl) (by kernel_rfl) (fun _ _ _ h => h) rfl (by assumption) (Or.inl ⟨by rfl, ?_⟩) ?_
              rotate_left
              · intro w hSw; go_simp; (try with_reducible rfl)
              simp only [List.set_cons_zero, List.set_cons_succ]
              refine held_take (i := 10) (v := ?_) 97 rfl (by kernel_rfl) (by kernel_rfl) (by kernel_rfl) (fun _ _ _ h => h) rfl (by assumption) (Or.inl ⟨by rfl, ?_⟩) ?_
              rotate_left
              · intro w hSw; go_simp; (try with_reducible rfl)
              simp only [List.set_cons_zero, List.set_cons_succ]
              refine wpAnyH_ready (rs := [6]) (by kernel_rfl) (by simp) ?_
              refine (AllReadyH.cons rfl (fun K hK => ?_) AllReadyH.nil)
              go_simp
              refine (shasum_st H p g2 _ _ (hS.below hHeld) (by rw [HLE.out]; omega)).mono ?_
              rintro e w2x ⟨v6, rfl, ho6, hb⟩
              have hbt := HB.trans hHeld hb
              have hT := hT.below hbt
              have hS := hS.below hbt
              have hE := hE.step hbt
              obtain ⟨a6, c6, rfl, hB6⟩ := ho6.bsn (n := 32) (sha_length _)
              go_wp2_with fail
              refine hK.out _ _ hbt (fun _ => held_next hbt (fun hHeld2 => ?_))
              clear hK hHeld hb hbt K
              have hHeld := hHeld2
              clear hHeld2
              refine held_take (i := 7) (v := ?_) 94 rfl (by kernel_rfl) (by kernel_rfl) (by kernel_rfl) (fun _ _ _ h => h) rfl (by assumption) (Or.inl ⟨by rfl, ?_⟩) ?_
              rotate_left
              · intro w hSw; have hs := run_string (hB6.below hSw); go_simp; (try with_reducible rfl)
              simp only [List.set_cons_zero, List.set_cons_succ]
              refine wpAnyH_ready (rs := [11]) (by kernel_rfl) (by simp) ?_
              refine (AllReadyH.cons rfl (fun K hK => ?_) AllReadyH.nil)
              go_simp
              refine (rsum_any _ _ _ _ _ (hT.below hHeld) (by omega)).mono ?_
              rintro e w3x ⟨v11, rfl, ho11, hb⟩
              have hbt := HB.trans hHeld hb
              have hT := hT.below hbt
              have hS := hS.below hbt
              have hE := hE.step hbt
              have hB6 := hB6.below hbt
              obtain ⟨a11, c11, rfl, hB11⟩ := ho11.bsn (n := 32) (sha_length _)
              go_wp2_with fail
              refine hK.out _ _ hbt (fun _ => held_next hbt (fun hHeld2 => ?_))
              clear hK hHeld hb hbt K
              have hHeld := hHeld2
              clear hHeld2
              refine held_take (i := 12) (v := ?_) 99 rfl (by kernel_rfl) (by kernel_rfl) (by kernel_rfl) (fun _ _ _ h => h) rfl (by assumption) (Or.inl ⟨by rfl, ?_⟩) ?_
              rotate_left
              · intro w hSw; have hs := run_string (hB11.below hSw); go_simp; (try with_reducible rfl)
              simp only [List.set_cons_zero, List.set_cons_succ]
              refine held_take (i := 13) (v := ?_) 100 rfl (by kernel_rfl) (by kernel_rfl) (by kernel_rfl) (fun _ _ _ h => h) rfl (by assumption) (Or.inl ⟨by rfl, ?_⟩) ?_
              rotate_left
              · intro w hSw; go_simp; (try with_reducible rfl)
              simp only [List.set_cons_zero, List.set_cons_succ]
              refine held_take (i := 14) (v := ?_) 101 rfl (by kernel_rfl) (by kernel_rfl) (by kernel_rfl) (fun _ _ _ h => h) rfl (by assumption) (Or.inl ⟨by rfl, ?_⟩) ?_
              rotate_left
              · intro w hSw; go_simp; (try with_reducible rfl)
              simp only [List.set_cons_zero, List.set_cons_succ]
              refine wpAnyH_done (by kernel_rfl) ?_ _
              go_wp2_with fail
              go_meet
              exact ⟨rfl, hS.below hHeld, hE.step hHeld⟩
            case rest =>
              obtain ⟨rfl, hS, hE⟩ := hcut
              go_wp2_with fail
              go_roundw
              case rel => exact ⟨E, k + 1, g2, rfl, by go_num, by omega, hdl, hS, hE⟩
              case measure => simp [intOf]; omega
          · rw [decide_eq_false hlt]
            go_wp2_with fail
            go_meet
            exact ⟨A, g, rfl, hA, hS1, hE1⟩
    case rest =>
      obtain ⟨A, g, rfl, hA, hS1, hE1⟩ := hcut
      clear hS hE
      obtain ⟨a2, ha2⟩ : ∃ a2, (if ca = A then aa else aa.map (·.add A)) = a2 := ⟨_, rfl⟩
      have hM := HXa.out.drop (k := A) hA
      rw [ha2] at hM
      have HWr := Lib.hid (shawrite_any H p g (xa.take A) a2 (la - A) (ca - A) (xa.drop A) wc hS1 (hM.below (by rw [← HH.out]; exact hE1.1)) (fun h0 ad had => hS1.far (by have := hM.blk h0 ad had; rw [HH.out]; exact this)) (by have := List.length_take_le A xa; omega))
      rw [List.take_append_drop] at HWr
      have HS1 := Lib.hid hS1
      clear hM hS1
      have f1 : (0 : Int) ≤ (A : Int) := by omega
      have f2 : (A : Int) ≤ (la : Int) := by omega
      go_wp2_with fail
      refine HWr.out.mono ?_
      rintro e w3 ⟨rfl, g2, hS, hC, _⟩
      have hE := hE1.upto (HS1.out.belowOf hC)
      clear hC HWr HS1 hE1 ha2 f1 f2 hA
      have hA := HXa.out.below (by rw [← HH.out]; exact hE.1)
      go_upto_region 21 with fail
      obtain ⟨wd, hwd⟩ : ∃ wd, wd = w3.drew := ⟨_, rfl⟩
      have hb : Below w3.heap.size w3 wd := by rw [hwd]; exact (Below.refl _ _).drew
      have hA := hA.below hb
      have hS := hS.below hb
      have hE := hE.step hb
      clear hb
      refine held_start (by kernel_rfl) (fun hHeld => ?_)
      rw [← hwd] at hHeld ⊢
      clear hwd
      refine held_take (i := 0) (v := ?_) 107 rfl (by kernel_rfl) (by kernel_rfl) (by kernel_rfl) (fun _ _ _ h => h) rfl (by assumption) (Or.inl ⟨by rfl, ?_⟩) ?_
      rotate_left
      · intro w hSw; go_simp; (try with_reducible rfl)
      simp only [List.set_cons_zero, List.set_cons_succ]
      refine held_take (i := 3) (v := ?_) 110 rfl (by kernel_rfl) (by kernel_rfl) (by kernel_rfl) (fun _ _ _ h => h) rfl (by assumption) (Or.inl ⟨by rfl, ?_⟩) ?_
      rotate_left
      · intro w hSw; go_simp; (try with_reducible rfl)
      simp only [List.set_cons_zero, List.set_cons_succ]
      refine wpAnyH_ready (rs := [1]) (by kernel_rfl) (by simp) ?_
      refine (AllReadyH.cons rfl (fun K hK => ?_) AllReadyH.nil)
      go_simp
      refine (shasum_st H p g2 _ _ (hS.below hHeld) (by rw [HXl.out]; omega)).mono ?_
      rintro e w1x ⟨v1, rfl, ho1, hb⟩
      have hbt := HB.trans hHeld hb
      have hA := hA.below hbt
      have hS := hS.below hbt
      have hE := hE.step hbt
      obtain ⟨a1, c1, rfl, hB1⟩ := ho1.bsn (n := 32) (sha_length _)
      go_wp2_with fail
      refine hK.out _ _ hbt (fun _ => held_next hbt (fun hHeld2 => ?_))
      clear hK hHeld hb hbt K
      have hHeld := hHeld2
      clear hHeld2
      refine held_take (i := 2) (v := ?_) 109 rfl (by kernel_rfl) (by kernel_rfl) (by kernel_rfl) (fun _ _ _ h => h) rfl (by assumption) (Or.inl ⟨by rfl, ?_⟩) ?_
      rotate_left
      · intro w hSw; have hs := run_string (hB1.below hSw); go_simp; (try with_reducible rfl)
      simp only [List.set_cons_zero, List.set_cons_succ]
      refine wpAnyH_ready (rs := [4]) (by kernel_rfl) (by simp) ?_
      refine (AllReadyH.cons rfl (fun K hK => ?_) AllReadyH.nil)
      go_simp
      refine (rsum_any _ _ _ _ _ (hA.below hHeld) (by omega)).mono ?_
      rintro e w2x ⟨v4, rfl, ho4, hb⟩
      have hbt := HB.trans hHeld hb
      have hA := hA.below hbt
      have hS := hS.below hbt
      have hE := hE.step hbt
      have hB1 := hB1.below hbt
      obtain ⟨a4, c4, rfl, hB4⟩ := ho4.bsn (n := 32) (sha_length _)
      go_wp2_with fail
      refine hK.out _ _ hbt (fun _ => held_next hbt (fun hHeld2 => ?_))
      clear hK hHeld hb hbt K
      have hHeld := hHeld2
      clear hHeld2
      refine held_take (i := 5) (v := ?_) 112 rfl (by kernel_rfl) (by kernel_rfl) (by kernel_rfl) (fun _ _ _ h => h) rfl (by assumption) (Or.inl ⟨by rfl, ?_⟩) ?_
      rotate_left
      · intro w hSw; have hs := run_string (hB4.below hSw); go_simp; (try with_reducible rfl)
      simp only [List.set_cons_zero, List.set_cons_succ]
      refine held_take (i := 6) (v := ?_) 113 rfl (by kernel_rfl) (by kernel_rfl) (by kernel_rfl) (fun _ _ _ h => h) rfl (by assumption) (Or.inl ⟨by rfl, ?_⟩) ?_
      rotate_left
      · intro w hSw; go_simp; (try with_reducible rfl)
      simp only [List.set_cons_zero, List.set_cons_succ]
      refine held_take (i := 7) (v := ?_) 114 rfl (by kernel_rfl) (by kernel_rfl) (by kernel_rfl) (fun _ _ _ h => h) rfl (by assumption) (Or.inl ⟨by rfl, ?_⟩) ?_
      rotate_left
      · intro w hSw; go_simp; (try with_reducible rfl)
      simp only [List.set_cons_zero, List.set_cons_succ]
      refine held_take (i := 8) (v := ?_) 115 rfl (by kernel_rfl) (by kernel_rfl) (by kernel_rfl) (fun _ _ _ h => h) rfl (by assumption) (Or.inl ⟨by rfl, ?_⟩) ?_
      rotate_left
      · intro w hSw; go_simp; (try with_reducible rfl)
      simp only [List.set_cons_zero, List.set_cons_succ]
      refine held_take (i := 11) (v := ?_) 118 rfl (by kernel_rfl) (by kernel_rfl) (by kernel_rfl) (fun _ _ _ h => h) rfl (by assumption) (Or.inl ⟨by rfl, ?_⟩) ?_
      rotate_left
      · intro w hSw; go_simp; (try with_reducible rfl)
      simp only [List.set_cons_zero, List.set_cons_succ]
      refine wpAnyH_ready (rs := [9]) (by kernel_rfl) (by simp) ?_
      refine (AllReadyH.cons rfl (fun K hK => ?_) AllReadyH.nil)
      go_simp
      refine (shasum_st H p g2 _ _ (hS.below hHeld) (by rw [HXl.out]; omega)).mono ?_
      rintro e w3x ⟨v9, rfl, ho9, hb⟩
      have hbt := HB.trans hHeld hb
      have hA := hA.below hbt
      have hS := hS.below hbt
      have hE := hE.step hbt
      have hB1 := hB1.below hbt
      have hB4 := hB4.below hbt
      obtain ⟨a9, c9, rfl, hB9⟩ := ho9.bsn (n := 32) (sha_length _)
      go_wp2_with fail
      refine hK.out _ _ hbt (fun _ => held_next hbt (fun hHeld2 => ?_))
      clear hK hHeld hb hbt K
      have hHeld := hHeld2
      clear hHeld2
      refine held_take (i := 10) (v := ?_) 117 rfl (by kernel_rfl) (by kernel_rfl) (by kernel_rfl) (fun _ _ _ h => h) rfl (by assumption) (Or.inl ⟨by rfl, ?_⟩) ?_
      rotate_left
      · intro w hSw; have hs := run_string (hB9.below hSw); go_simp; (try with_reducible rfl)
      simp only [List.set_cons_zero, List.set_cons_succ]
      refine wpAnyH_ready (rs := [12]) (by kernel_rfl) (by simp) ?_
      refine (AllReadyH.cons rfl (fun K hK => ?_) AllReadyH.nil)
      go_simp
      refine (shasum_any _ _ _ _ _ (hA.below hHeld) (by omega)).mono ?_
      rintro e w4x ⟨v12, rfl, ho12, hb⟩
      have hbt := HB.trans hHeld hb
      have hA := hA.below hbt
      have hS := hS.below hbt
      have hE := hE.step hbt
      have hB1 := hB1.below hbt
      have hB4 := hB4.below hbt
      have hB9 := hB9.below hbt
      obtain ⟨a12, c12, rfl, hB12⟩ := ho12.bsn (n := 32) (sha_length _)
      go_wp2_with fail
      refine hK.out _ _ hbt (fun _ => held_next hbt (fun hHeld2 => ?_))
      clear hK hHeld hb hbt K
      have hHeld := hHeld2
      clear hHeld2
      refine held_take (i := 13) (v := ?_) 120 rfl (by kernel_rfl) (by kernel_rfl) (by kernel_rfl) (fun _ _ _ h => h) rfl (by assumption) (Or.inl ⟨by rfl, ?_⟩) ?_
      rotate_left
      · intro w hSw; have hs := run_string (hB12.below hSw); go_simp; (try with_reducible rfl)
      simp only [List.set_cons_zero, List.set_cons_succ]
      refine held_take (i := 14) (v := ?_) 121 rfl (by kernel_rfl) (by kernel_rfl) (by kernel_rfl) (fun _ _ _ h => h) rfl (by assumption) (Or.inl ⟨by rfl, ?_⟩) ?_
      rotate_left
      · intro w hSw; go_simp; (try with_reducible rfl)
      simp only [List.set_cons_zero, List.set_cons_succ]
      refine held_take (i := 15) (v := ?_) 122 rfl (by kernel_rfl) (by kernel_rfl) (by kernel_rfl) (fun _ _ _ h => h) rfl (by assumption) (Or.inl ⟨by rfl, ?_⟩) ?_
      rotate_left
      · intro w hSw; go_simp; (try with_reducible rfl)
      simp only [List.set_cons_zero, List.set_cons_succ]
      refine held_take (i := 16) (v := ?_) 123 rfl (by kernel_rfl) (by kernel_rfl) (by kernel_rfl) (fun _ _ _ h => h) rfl (by assumption) (Or.inl ⟨by rfl, ?_⟩) ?_
      rotate_left
      · intro w hSw; go_simp; (try with_reducible rfl)
      simp only [List.set_cons_zero, List.set_cons_succ]
      refine held_take (i := 17) (v := ?_) 124 rfl (by kernel_rfl) (by kernel_rfl) (by kernel_rfl) (fun _ _ _ h => h) rfl (by assumption) (Or.inl ⟨by rfl, ?_⟩) ?_
      rotate_left
      · intro w hSw; go_simp; (try with_reducible rfl)
      simp only [List.set_cons_zero, List.set_cons_succ]
      refine held_take (i := 19) (v := ?_) 126 rfl (by kernel_rfl) (by kernel_rfl) (by kernel_rfl) (fun _ _ _ h => h) rfl (by assumption) (Or.inl ⟨by rfl, ?_⟩) ?_
      rotate_left
      · intro w hSw; go_simp; (try with_reducible rfl)
      simp only [List.set_cons_zero, List.set_cons_succ]
      refine held_take (i := 20) (v := ?_) 127 rfl (by kernel_rfl) (by kernel_rfl) (by kernel_rfl) (fun _ _ _ h => h) rfl (by assumption) (Or.inl ⟨by rfl, ?_⟩) ?_
      rotate_left
      · intro w hSw; go_simp; (try with_reducible rfl)
      simp only [List.set_cons_zero, List.set_cons_succ]
      refine wpAnyH_ready (rs := [18]) (by kernel_rfl) (by simp) ?_
      refine (AllReadyH.cons rfl (fun K hK => ?_) AllReadyH.nil)
      go_simp
      refine (shalen_b H p g2 _ la _ (hS.below hHeld) HXl.out).mono ?_
      rintro e w5x ⟨rfl, hb⟩
      have hbt := HB.trans hHeld hb
      have hA := hA.below hbt
      have hS := hS.below hbt
      have hE := hE.step hbt
      have hB1 := hB1.below hbt
      have hB4 := hB4.below hbt
      have hB9 := hB9.below hbt
      have hB12 := hB12.below hbt
      go_wp2_with fail
      refine hK.out _ _ hbt (fun _ => held_next hbt (fun hHeld2 => ?_))
      clear hK hHeld hb hbt K
      have hHeld := hHeld2
      clear hHeld2
      refine held_take (i := 21) (v := ?_) 128 rfl (by kernel_rfl) (by kernel_rfl) (by kernel_rfl) (fun _ _ _ h => h) rfl (by assumption) (Or.inl ⟨by rfl, ?_⟩) ?_
      rotate_left
      · intro w hSw; go_simp; (try with_reducible rfl)
      simp only [List.set_cons_zero, List.set_cons_succ]
      refine held_take (i := 22) (v := ?_) 129 rfl (by kernel_rfl) (by kernel_rfl) (by kernel_rfl) (fun _ _ _ h => h) rfl (by assumption) (Or.inl ⟨by rfl, ?_⟩) ?_
      rotate_left
      · intro w hSw; go_simp; (try with_reducible rfl)
      simp only [List.set_cons_zero, List.set_cons_succ]
      refine held_take (i := 23) (v := ?_) 130 rfl (by kernel_rfl) (by kernel_rfl) (by kernel_rfl) (fun _ _ _ h => h) rfl (by assumption) (Or.inl ⟨by rfl, ?_⟩) ?_
      rotate_left
      · intro w hSw; go_simp; (try with_reducible rfl)
      simp only [List.set_cons_zero, List.set_cons_succ]
      refine wpAnyH_ready (rs := [24]) (by kernel_rfl) (by simp) ?_
      refine (AllReadyH.cons rfl (fun K hK => ?_) AllReadyH.nil)
      go_simp
      refine (sha_known _).mono ?_
      rintro e w6x ⟨rfl, hb⟩
      have hbt := HB.trans hHeld hb
      have hA := hA.below hbt
      have hS := hS.below hbt
      have hE := hE.step hbt
      have hB1 := hB1.below hbt
      have hB4 := hB4.below hbt
      have hB9 := hB9.below hbt
      have hB12 := hB12.below hbt
      go_wp2_with fail
      refine hK.out _ _ hbt (fun _ => held_next hbt (fun hHeld2 => ?_))
      clear hK hHeld hb hbt K
      have hHeld := hHeld2
      clear hHeld2
      refine held_take (i := 25) (v := ?_) 132 rfl (by kernel_rfl) (by kernel_rfl) (by kernel_rfl) (fun _ _ _ h => h) rfl (by assumption) (Or.inl ⟨by rfl, ?_⟩) ?_
      rotate_left
      · intro w hSw; go_simp; (try with_reducible rfl)
      simp only [List.set_cons_zero, List.set_cons_succ]
      refine held_take (i := 26) (v := ?_) 6 rfl (by kernel_rfl) (by kernel_rfl) (by kernel_rfl) (fun _ _ _ h => h) rfl (by assumption) (Or.inl ⟨by rfl, ?_⟩) ?_
      rotate_left
      · intro w hSw; go_simp; (try with_reducible rfl)
      simp only [List.set_cons_zero, List.set_cons_succ]
      refine wpAnyH_done (by kernel_rfl) ?_ _
      go_wp2_with fail
      go_ret
      exact ⟨rfl, (hE.step hHeld).1⟩

end Go.Proofs.Ytmjlndfkddacbaa
