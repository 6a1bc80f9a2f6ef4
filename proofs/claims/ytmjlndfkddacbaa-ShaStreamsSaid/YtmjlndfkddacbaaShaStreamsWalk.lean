/- The walk of ShaStreams. -/
import Derived.Test.YtmjlndfkddacbaaShaKnown
import Derived.Test.YtmjlndfkddacbaaFr
import Derived.Test.YtmjlndfkddacbaaCut
import Derived.Test.YtmjlndfkddacbaaWithin
import Derived.Test.YtmjlndfkddacbaaInts
namespace Go.Proofs.Ytmjlndfkddacbaa
open Go.RowKit

theorem Strm.weaken {w : World} {B B' p : Nat} {g : Option Nat} {xs : List UInt8} (h : Strm w B' p g xs) (hB : B ≤ B') : Strm w B p g xs := by
  obtain ⟨h0, v, h1, h2, h3, h4⟩ := h
  exact ⟨Nat.le_trans hB h0, v, h1, h2.weaken hB, h3, h4⟩
/-- two streams that share nothing -/
structure Two (W : World) (B p q : Nat) (g h : Option Nat) (xs ys : List UInt8) : Prop where
  s : Strm W B p g xs
  t : Strm W B q h ys
  pq : p ≠ q
  gq : g ≠ some q
  hp : h ≠ some p
  gh : ∀ k, g = some k → h ≠ some k
theorem Two.below {W W' : World} {B p q : Nat} {g h : Option Nat} {xs ys : List UInt8} (z : Two W B p q g h xs ys) (hb : Below W.heap.size W W') : Two W' B p q g h xs ys :=
  ⟨z.s.below hb, z.t.below hb, z.pq, z.gq, z.hp, z.gh⟩
theorem Two.apart {W : World} {B p q : Nat} {g h : Option Nat} {xs ys : List UInt8} (z : Two W B p q g h xs ys) : ∀ k, SS q h k → ¬ SS p g k := by
  intro k hk hs
  rcases hk with rfl | hk <;> rcases hs with hs | hs
  · exact z.pq hs.symm
  · exact z.gq hs
  · subst hs; exact z.hp hk
  · exact z.gh k hs hk
theorem Two.swap {W : World} {B p q : Nat} {g h : Option Nat} {xs ys : List UInt8} (z : Two W B p q g h xs ys) : Two W B q p h g ys xs :=
  ⟨z.t, z.s, z.pq.symm, z.hp, z.gq, fun k hk e => z.gh k e hk⟩
/-- behind a Write on the first -/
theorem Two.write {W W' : World} {B p q : Nat} {g h : Option Nat} {xs xs' ys : List UInt8} (z : Two W B p q g h xs ys) (hw : SPost W B p g xs' W') : ∃ g', Two W' B p q g' h xs' ys ∧ Below B W W' := by
  obtain ⟨g', h1, h2, h3⟩ := hw
  have hq := z.t.lt
  have hp := z.s.lt
  refine ⟨g', ⟨h1, z.t.chg h2 z.apart, z.pq, ?_, z.hp, ?_⟩, z.s.belowOf h2⟩
  · rcases h3 with rfl | ⟨k, rfl, hk⟩
    · exact z.gq
    · intro e; injection e with e; omega
  · intro k hk e
    rcases h3 with rfl | ⟨k', rfl, hk'⟩
    · exact z.gh k hk e
    · injection hk with hk; subst hk
      subst e
      have := z.t.row_lt.1
      omega
/-- bytes that lie below the streams -/
theorem Strm.far {W : World} {B p : Nat} {g : Option Nat} {xs : List UInt8} (h : Strm W B p g xs) {k : Nat} (hk : k < B) : ¬ SS p g k := by
  intro hs
  have h0 := h.1
  rcases hs with hs | hs
  · omega
  · subst hs; have := h.row_lt.2; omega
theorem shalen_b (B p : Nat) (g : Option Nat) (xs : List UInt8) (n : Nat) (w : World) (h : Strm w B p g xs) (hn : xs.length = n) :
    Calls Try.prog 25 #[.pointer (some ⟨p, 0, none⟩)] w fun e w' => e = .returned (.int .i64 (n : Int)) ∧ Below w.heap.size w w' := by
  subst hn
  exact (shalen_any B p g xs w h).mono fun e w' ⟨h1, h2⟩ => ⟨h1, h2 ▸ Below.refl _ _⟩
/-- a Write of a part, at an address below the streams -/
theorem two_write {w w0 : World} {B p q : Nat} {g h : Option Nat} {xs ys zs : List UInt8} {a : Option Addr} {n c : Nat} (z : Two w B p q g h xs ys) (hB : Bs w0 a n c zs) (hE : Ext B w0 w) (hw0 : w0.heap.size = B) (hl : xs.length + n ≤ 1000000) :
    Calls Try.prog 23 #[.pointer (some ⟨p, 0, none⟩), .slice a n c] w fun e w' => e = .returned (.tuple #[]) ∧ ∃ g', Two w' B p q g' h (xs ++ zs) ys ∧ Ext B w0 w' :=
  (shawrite_any B p g xs a n c zs w z.s (hB.below (by rw [hw0]; exact hE.1)) (fun h0 ad had => z.s.far (by have := hB.blk h0 ad had; omega)) hl).mono fun e w' ⟨h1, h2⟩ => by
    obtain ⟨g', h3, h4⟩ := z.write h2
    exact ⟨h1, g', h3, hE.upto h4⟩

set_option maxHeartbeats 4000000 in
set_option maxRecDepth 100000 in
theorem ShaStreams_walk (v0 v1 v2 v3 : Value) (w : World) (h0 : Arg Try.prog w 25 v0) (h1 : Arg Try.prog w 22 v1) (h2 : Arg Try.prog w 22 v2) (h3 : Arg Try.prog w 25 v3) :
    Calls Try.prog 7 #[v0, v1, v2, v3] w fun e w' => e = .returned (.bool true) ∧ Below w.heap.size w w' := by
  obtain ⟨ab, lb0, cb, xb0, rfl, hB⟩ := h0.bytes Try.underlying25 Try.underlying5 (by kernel_rfl)
  obtain ⟨ac, lc, cc, xc, rfl, hC⟩ := h1.ints Try.underlying22 Try.underlying3 (by kernel_rfl)
  obtain ⟨ad, ld, cd, xd, rfl, hD⟩ := h2.ints Try.underlying22 Try.underlying3 (by kernel_rfl)
  obtain ⟨am, lm0, cm, xm0, rfl, hM⟩ := h3.bytes Try.underlying25 Try.underlying5 (by kernel_rfl)
  clear h0 h1 h2 h3
  have HCb := Lib.hid (fun W => cut_any 400 ab lb0 cb W hB.2.1 (by omega))
  have HCm := Lib.hid (fun W => cut_any 100 am lm0 cm W hM.2.1 (by omega))
  have hB := hB.take (k := min lb0 400) (Nat.min_le_left _ _)
  have hM := hM.take (k := min lm0 100) (Nat.min_le_left _ _)
  have hlb : min lb0 400 ≤ 400 := Nat.min_le_right _ _
  have hlm : min lm0 100 ≤ 100 := Nat.min_le_right _ _
  generalize min lb0 400 = lb at *
  generalize min lm0 100 = lm at *
  generalize xb0.take lb = xb at *
  generalize xm0.take lm = xm at *
  have hE := Ext.refl w
  obtain ⟨H, hH⟩ : ∃ H, H = w.heap.size := ⟨_, rfl⟩
  rw [← hH] at hE ⊢
  have HH := Lib.hid hH
  clear hH
  have HXb := Lib.hid hB
  have HM := Lib.hid hM
  have HC := Lib.hid hC
  have HD := Lib.hid hD
  have hcb : lb ≤ cb := hB.2.1
  have hBl : Hid (xb.length = lb) := Lib.hid hB.1
  have hMl : Hid (xm.length = lm) := Lib.hid hM.1
  clear hB hM hC hD
  go_enter Try.func7, Try.ntmps7
  go_wp2_with fail
  refine (HCb.out _).mono ?_
  rintro e wq ⟨rfl, rfl⟩
  go_wp2_with fail
  refine (shanew_any w).mono ?_
  rintro e w1 ⟨p, rfl, hS, hb⟩
  have hE := hE.step hb
  rw [← HH.out] at hS
  clear hb
  go_wp2_with fail
  refine (shanew_any _).mono ?_
  rintro e w2 ⟨q, rfl, hT, hb⟩
  have hZ : Two w2 H p q none none [] [] := ⟨hS.below hb, hT.weaken hE.2, by have := hS.lt; have := hT.1; omega, by simp, by simp, by simp⟩
  have hE := hE.step hb
  clear hb hS hT
  go_upto_block 0 with fail
  go_cut [11] (fun s wr => ∃ (A : Nat) (g : Option Nat), s = .int .i64 (A : Int) ∧ A ≤ lb ∧ Two wr H p q g none (xb.take A) [] ∧ Ext H w wr)
  case first =>
    go_wp2_with fail
    go_loopw [11, 12] (fun s i wr => ∃ (A k : Nat) (g : Option Nat), s = .int .i64 (A : Int) ∧ i = .int .i64 (k : Int) ∧ k ≤ 20 ∧ A ≤ lb ∧ Two wr H p q g none (xb.take A) [] ∧ Ext H w wr) (fun _ i _ => 20 - (intOf i).toNat)
    case atStart => exact ⟨0, 0, none, rfl, rfl, by omega, by omega, hZ, hE⟩
    case round =>
      obtain ⟨A, k, g, rfl, rfl, hk, hA, hZ1, hE1⟩ := hrel
      clear hZ hE
      go_upto_region 7 with fail
      go_cut [33] (fun s wx => s = .bool (decide (k < lc ∧ k < 20)) ∧ wr = wx)
      case first =>
        by_cases h1 : k < lc
        · by_cases h2 : k < 20
          · go_wp2_with fail
            go_meet
            exact ⟨congrArg Value.bool (by rw [decide_eq_decide]; omega), rfl⟩
          · go_wp2_with fail
            go_meet
            exact ⟨congrArg Value.bool (by rw [decide_eq_decide]; omega), rfl⟩
        · go_wp2_with fail
          go_meet
          exact ⟨by rw [decide_eq_false (show ¬ (k < lc ∧ k < 20) by omega)], rfl⟩
      case rest =>
        obtain ⟨rfl, rfl⟩ := hcut
        by_cases hlt : k < lc ∧ k < 20
        · rw [decide_eq_true hlt]
          obtain ⟨hlt1, hlt2⟩ := hlt
          obtain ⟨bc, oc, rfl, hbc, hcc⟩ := HC.out.at (by omega)
          have hck := (hE1.1.cell (p := ⟨bc, oc + k, none⟩) (by rw [HH.out]; exact hbc)).trans (hcc k (by rw [HC.out.1]; exact hlt1))
          generalize xc[k]'(by rw [HC.out.1]; exact hlt1) = x at *
          clear hcc
          have hwd := within_bd x 0 ((lb : Int) - (A : Int)) (by omega)
          have HW := Lib.hid (fun W => within_any x 0 ((lb : Int) - (A : Int)) W (by omega) (by omega) (by omega))
          obtain ⟨E, hEd⟩ : ∃ E : Nat, (E : Int) = (A : Int) + within x 0 ((lb : Int) - (A : Int)) := by
            obtain ⟨d, hd⟩ := Int.eq_ofNat_of_zero_le hwd.1
            exact ⟨A + d, by rw [hd]; omega⟩
          have hdl : E ≤ lb := by omega
          have f4 : A ≤ E := by omega
          have i1 : IntKind.i64.wrap ((lb : Int) - (A : Int)) = (lb : Int) - (A : Int) := IntWalk.i64_in _ (by omega)
          have i2 : IntKind.i64.wrap ((A : Int) + within x 0 ((lb : Int) - (A : Int))) = (E : Int) := by rw [IntWalk.i64_in _ (by omega)]; omega
          generalize within x 0 ((lb : Int) - (A : Int)) = W0 at *
          clear hwd hEd
          have e1 : (0 : Int) ≤ (k : Int) := by omega
          have e2 : (k : Int) < (lc : Int) := by omega
          go_wp2_with fail
          refine (HW.out _).mono ?_
          rintro e wq ⟨rfl, rfl⟩
          have HWr := Lib.hid (two_write hZ1 (HXb.out.mid (k := A) (d := E - A) (by omega)) hE1 HH.out.symm (by have := List.length_take_le A xb; omega))
          rw [take_drop_take, Nat.add_sub_cancel' f4] at HWr
          clear hZ1 hE1 HW hck
          obtain ⟨a2, ha2⟩ : ∃ a2, (if cb = A then ab else ab.map (·.add A)) = a2 := ⟨_, rfl⟩
          rw [ha2] at HWr
          have f1 : (0 : Int) ≤ (A : Int) := by omega
          have f2 : (A : Int) ≤ (E : Int) := by omega
          have f3 : (E : Int) ≤ (cb : Int) := by omega
          have f5 : E ≤ cb := by omega
          go_wp2_with fail
          refine HWr.out.mono ?_
          rintro e w3 ⟨rfl, g3, hZ3, hE3⟩
          clear HWr
          go_wp2_with fail
          go_roundw
          case rel => exact ⟨E, k + 1, g3, rfl, by go_num, by omega, hdl, hZ3, hE3⟩
          case measure => simp [intOf]; omega
        · rw [decide_eq_false hlt]
          go_wp2_with fail
          go_meet
          exact ⟨A, g, rfl, hA, hZ1, hE1⟩
  case rest =>
    obtain ⟨A, g, rfl, hA, hZ1, hE1⟩ := hcut
    clear hZ hE
    obtain ⟨a2, ha2⟩ : ∃ a2, (if cb = A then ab else ab.map (·.add A)) = a2 := ⟨_, rfl⟩
    have HWr := Lib.hid (two_write hZ1 (HXb.out.drop (k := A) hA) hE1 HH.out.symm (by have := List.length_take_le A xb; omega))
    rw [List.take_append_drop, ha2] at HWr
    clear hZ1 hE1
    have f1 : (0 : Int) ≤ (A : Int) := by omega
    have f2 : (A : Int) ≤ (lb : Int) := by omega
    go_wp2_with fail
    refine HWr.out.mono ?_
    rintro e w3 ⟨rfl, g2, hZ, hE⟩
    clear HWr ha2 f1 f2
    have hZ := hZ.swap
    go_upto_block 2 with fail
    go_cut [11] (fun s wr => ∃ (A : Nat) (h : Option Nat), s = .int .i64 (A : Int) ∧ A ≤ lb ∧ Two wr H q p h g2 (xb.take A) xb ∧ Ext H w wr)
    case first =>
      go_wp2_with fail
      go_loopw [11, 14] (fun s i wr => ∃ (A k : Nat) (h : Option Nat), s = .int .i64 (A : Int) ∧ i = .int .i64 (k : Int) ∧ k ≤ 20 ∧ A ≤ lb ∧ Two wr H q p h g2 (xb.take A) xb ∧ Ext H w wr) (fun _ i _ => 20 - (intOf i).toNat)
      case atStart => exact ⟨0, 0, none, rfl, rfl, by omega, by omega, hZ, hE⟩
      case round =>
        obtain ⟨A, k, h, rfl, rfl, hk, hA, hZ1, hE1⟩ := hrel
        clear hZ hE
        go_upto_region 15 with fail
        go_cut [66] (fun s wx => s = .bool (decide (k < ld ∧ k < 20)) ∧ wr = wx)
        case first =>
          by_cases h1 : k < ld
          · by_cases h2 : k < 20
            · go_wp2_with fail
              go_meet
              exact ⟨congrArg Value.bool (by rw [decide_eq_decide]; omega), rfl⟩
            · go_wp2_with fail
              go_meet
              exact ⟨congrArg Value.bool (by rw [decide_eq_decide]; omega), rfl⟩
          · go_wp2_with fail
            go_meet
            exact ⟨by rw [decide_eq_false (show ¬ (k < ld ∧ k < 20) by omega)], rfl⟩
        case rest =>
          obtain ⟨rfl, rfl⟩ := hcut
          by_cases hlt : k < ld ∧ k < 20
          · rw [decide_eq_true hlt]
            obtain ⟨hlt1, hlt2⟩ := hlt
            obtain ⟨bc, oc, rfl, hbc, hcc⟩ := HD.out.at (by omega)
            have hck := (hE1.1.cell (p := ⟨bc, oc + k, none⟩) (by rw [HH.out]; exact hbc)).trans (hcc k (by rw [HD.out.1]; exact hlt1))
            generalize xd[k]'(by rw [HD.out.1]; exact hlt1) = x at *
            clear hcc
            have hwd := within_bd x 0 ((lb : Int) - (A : Int)) (by omega)
            have HW := Lib.hid (fun W => within_any x 0 ((lb : Int) - (A : Int)) W (by omega) (by omega) (by omega))
            obtain ⟨E, hEd⟩ : ∃ E : Nat, (E : Int) = (A : Int) + within x 0 ((lb : Int) - (A : Int)) := by
              obtain ⟨d, hd⟩ := Int.eq_ofNat_of_zero_le hwd.1
              exact ⟨A + d, by rw [hd]; omega⟩
            have hdl : E ≤ lb := by omega
            have f4 : A ≤ E := by omega
            have i1 : IntKind.i64.wrap ((lb : Int) - (A : Int)) = (lb : Int) - (A : Int) := IntWalk.i64_in _ (by omega)
            have i2 : IntKind.i64.wrap ((A : Int) + within x 0 ((lb : Int) - (A : Int))) = (E : Int) := by rw [IntWalk.i64_in _ (by omega)]; omega
            generalize within x 0 ((lb : Int) - (A : Int)) = W0 at *
            clear hwd hEd
            have e1 : (0 : Int) ≤ (k : Int) := by omega
            have e2 : (k : Int) < (ld : Int) := by omega
            go_wp2_with fail
            refine (HW.out _).mono ?_
            rintro e wq ⟨rfl, rfl⟩
            have HWr := Lib.hid (two_write hZ1 (HXb.out.mid (k := A) (d := E - A) (by omega)) hE1 HH.out.symm (by have := List.length_take_le A xb; omega))
            rw [take_drop_take, Nat.add_sub_cancel' f4] at HWr
            clear hZ1 hE1 HW hck
            obtain ⟨a2, ha2⟩ : ∃ a2, (if cb = A then ab else ab.map (·.add A)) = a2 := ⟨_, rfl⟩
            rw [ha2] at HWr
            have f1 : (0 : Int) ≤ (A : Int) := by omega
            have f2 : (A : Int) ≤ (E : Int) := by omega
            have f3 : (E : Int) ≤ (cb : Int) := by omega
            have f5 : E ≤ cb := by omega
            go_wp2_with fail
            refine HWr.out.mono ?_
            rintro e w3 ⟨rfl, g3, hZ3, hE3⟩
            clear HWr
            go_wp2_with fail
            refine (two_write hZ3 (Bs.nil w) hE3 HH.out.symm (by have := List.length_take_le E xb; omega)).mono ?_
            rintro e w4 ⟨rfl, g4, hZ4, hE4⟩
            rw [List.append_nil] at hZ4
            clear hZ3 hE3
            go_wp2_with fail
            go_roundw
            case rel => exact ⟨E, k + 1, g4, rfl, by go_num, by omega, hdl, hZ4, hE4⟩
            case measure => simp [intOf]; omega
          · rw [decide_eq_false hlt]
            go_wp2_with fail
            go_meet
            exact ⟨A, h, rfl, hA, hZ1, hE1⟩
    case rest =>
      obtain ⟨A, h, rfl, hA, hZ1, hE1⟩ := hcut
      clear hZ hE
      obtain ⟨a2, ha2⟩ : ∃ a2, (if cb = A then ab else ab.map (·.add A)) = a2 := ⟨_, rfl⟩
      have HWr := Lib.hid (two_write hZ1 (HXb.out.drop (k := A) hA) hE1 HH.out.symm (by have := List.length_take_le A xb; omega))
      rw [List.take_append_drop, ha2] at HWr
      clear hZ1 hE1
      have f1 : (0 : Int) ≤ (A : Int) := by omega
      have f2 : (A : Int) ≤ (lb : Int) := by omega
      go_wp2_with fail
      refine HWr.out.mono ?_
      rintro e w4 ⟨rfl, h2, hZ, hE⟩
      clear HWr ha2 f1 f2 hA
      have hS := hZ.t
      have hT := hZ.s
      have hB := HXb.out.below (by rw [← HH.out]; exact hE.1)
      have hsl := Lib.hid (show xb.length ≤ 1000000 by rw [hBl.out]; omega)
      have hsn := Lib.hid hBl.out
      have HZ := Lib.hid (show p ≠ q ∧ g2 ≠ some q ∧ h2 ≠ some p ∧ ∀ k, g2 = some k → h2 ≠ some k from ⟨hZ.swap.pq, hZ.swap.gq, hZ.swap.hp, hZ.swap.gh⟩)
      clear hZ
      have z1 : ∀ L : List UInt8, (!(strOf L).toList == (strOf L).toList) = false := fun L => by simp
      have z2 : ((lb : Int) != (lb : Int)) = false := by simp
      have z3 : (!((lb : Int) == (lb : Int))) = false := by simp
      go_upto_region 22 with fail
      go_cut [114] (fun s wr => s = .bool false ∧ Strm wr H p g2 xb ∧ Strm wr H q h2 xb ∧ Ext H w wr)
      case first =>
        obtain ⟨wd, hwd⟩ : ∃ wd, wd = w4.drew := ⟨_, rfl⟩
        have hb : Below w4.heap.size w4 wd := by rw [hwd]; exact (Below.refl _ _).drew
        have hB := hB.below hb
        have hS := hS.below hb
        have hT := hT.below hb
        have hE := hE.step hb
        clear hb
        refine held_start (by kernel_rfl) (fun hHeld => ?_)
        rw [← hwd] at hHeld ⊢
        clear hwd
        refine held_take (i := 0) (v := ?_) 94 rfl (by kernel_rfl) (by kernel_rfl) (by kernel_rfl) (fun _ _ _ h => h) rfl (by assumption) (Or.inl ⟨by rfl, ?_⟩) ?_
        rotate_left
        · intro w hSw; go_simp; (try with_reducible rfl)
        simp only [List.set_cons_zero, List.set_cons_succ]
        refine held_take (i := 3) (v := ?_) 97 rfl (by kernel_rfl) (by kernel_rfl) (by kernel_rfl) (fun _ _ _ h => h) rfl (by assumption) (Or.inl ⟨by rfl, ?_⟩) ?_
        rotate_left
        · intro w hSw; go_simp; (try with_reducible rfl)
        simp only [List.set_cons_zero, List.set_cons_succ]
        refine wpAnyH_ready (rs := [1]) (by kernel_rfl) (by simp) ?_
        refine (AllReadyH.cons rfl (fun K hK => ?_) AllReadyH.nil)
        go_simp
        refine (shasum_st H p g2 _ _ (hS.below hHeld) hsl.out).mono ?_
        rintro e w1x ⟨v1, rfl, ho1, hb⟩
        have hbt := HB.trans hHeld hb
        have hB := hB.below hbt
        have hS := hS.below hbt
        have hT := hT.below hbt
        have hE := hE.step hbt
        obtain ⟨a1, c1, rfl, hB1⟩ := ho1.bsn (n := 32) (sha_length _)
        go_wp2_with fail
        refine hK.out _ _ hbt (fun _ => held_next hbt (fun hHeld2 => ?_))
        clear hK hHeld hb hbt K
        have hHeld := hHeld2
        clear hHeld2
        refine held_take (i := 2) (v := ?_) 96 rfl (by kernel_rfl) (by kernel_rfl) (by kernel_rfl) (fun _ _ _ h => h) rfl (by assumption) (Or.inl ⟨by rfl, ?_⟩) ?_
        rotate_left
        · intro w hSw; have hs := run_string (hB1.below hSw); go_simp; (try with_reducible rfl)
        simp only [List.set_cons_zero, List.set_cons_succ]
        refine wpAnyH_ready (rs := [4]) (by kernel_rfl) (by simp) ?_
        refine (AllReadyH.cons rfl (fun K hK => ?_) AllReadyH.nil)
        go_simp
        refine (shasum_st H q h2 _ _ (hT.below hHeld) hsl.out).mono ?_
        rintro e w2x ⟨v4, rfl, ho4, hb⟩
        have hbt := HB.trans hHeld hb
        have hB := hB.below hbt
        have hS := hS.below hbt
        have hT := hT.below hbt
        have hE := hE.step hbt
        have hB1 := hB1.below hbt
        obtain ⟨a4, c4, rfl, hB4⟩ := ho4.bsn (n := 32) (sha_length _)
        go_wp2_with fail
        refine hK.out _ _ hbt (fun _ => held_next hbt (fun hHeld2 => ?_))
        clear hK hHeld hb hbt K
        have hHeld := hHeld2
        clear hHeld2
        refine held_take (i := 5) (v := ?_) 99 rfl (by kernel_rfl) (by kernel_rfl) (by kernel_rfl) (fun _ _ _ h => h) rfl (by assumption) (Or.inl ⟨by rfl, ?_⟩) ?_
        rotate_left
        · intro w hSw; have hs := run_string (hB4.below hSw); go_simp; (try with_reducible rfl)
        simp only [List.set_cons_zero, List.set_cons_succ]
        refine held_take (i := 6) (v := ?_) 100 rfl (by kernel_rfl) (by kernel_rfl) (by kernel_rfl) (fun _ _ _ h => h) rfl (by assumption) (Or.inl ⟨by rfl, ?_⟩) ?_
        rotate_left
        · intro w hSw; go_simp; (try with_reducible rfl)
        simp only [List.set_cons_zero, List.set_cons_succ]
        refine held_take (i := 7) (v := ?_) 101 rfl (by kernel_rfl) (by kernel_rfl) (by kernel_rfl) (fun _ _ _ h => h) rfl (by assumption) (Or.inl ⟨by rfl, ?_⟩) ?_
        rotate_left
        · intro w hSw; go_simp; (try with_reducible rfl)
        simp only [List.set_cons_zero, List.set_cons_succ]
        refine held_take (i := 8) (v := ?_) 102 rfl (by kernel_rfl) (by kernel_rfl) (by kernel_rfl) (fun _ _ _ h => h) rfl (by assumption) (Or.inl ⟨by rfl, ?_⟩) ?_
        rotate_left
        · intro w hSw; go_simp; (try with_reducible rfl)
        simp only [List.set_cons_zero, List.set_cons_succ]
        refine held_take (i := 10) (v := ?_) 104 rfl (by kernel_rfl) (by kernel_rfl) (by kernel_rfl) (fun _ _ _ h => h) rfl (by assumption) (Or.inl ⟨by rfl, ?_⟩) ?_
        rotate_left
        · intro w hSw; go_simp; (try with_reducible rfl)
        simp only [List.set_cons_zero, List.set_cons_succ]
        refine wpAnyH_ready (rs := [9]) (by kernel_rfl) (by simp) ?_
        refine (AllReadyH.cons rfl (fun K hK => ?_) AllReadyH.nil)
        go_simp
        refine (shalen_b H p g2 _ lb _ (hS.below hHeld) hsn.out).mono ?_
        rintro e w3x ⟨rfl, hb⟩
        have hbt := HB.trans hHeld hb
        have hB := hB.below hbt
        have hS := hS.below hbt
        have hT := hT.below hbt
        have hE := hE.step hbt
        have hB1 := hB1.below hbt
        have hB4 := hB4.below hbt
        go_wp2_with fail
        refine hK.out _ _ hbt (fun _ => held_next hbt (fun hHeld2 => ?_))
        clear hK hHeld hb hbt K
        have hHeld := hHeld2
        clear hHeld2
        refine wpAnyH_ready (rs := [11]) (by kernel_rfl) (by simp) ?_
        refine (AllReadyH.cons rfl (fun K hK => ?_) AllReadyH.nil)
        go_simp
        refine (shalen_b H q h2 _ lb _ (hT.below hHeld) hsn.out).mono ?_
        rintro e w4x ⟨rfl, hb⟩
        have hbt := HB.trans hHeld hb
        have hB := hB.below hbt
        have hS := hS.below hbt
        have hT := hT.below hbt
        have hE := hE.step hbt
        have hB1 := hB1.below hbt
        have hB4 := hB4.below hbt
        go_wp2_with fail
        refine hK.out _ _ hbt (fun _ => held_next hbt (fun hHeld2 => ?_))
        clear hK hHeld hb hbt K
        have hHeld := hHeld2
        clear hHeld2
        refine held_take (i := 12) (v := ?_) 106 rfl (by kernel_rfl) (by kernel_rfl) (by kernel_rfl) (fun _ _ _ h => h) rfl (by assumption) (Or.inl ⟨by rfl, ?_⟩) ?_
        rotate_left
        · intro w hSw; go_simp; (try with_reducible rfl)
        simp only [List.set_cons_zero, List.set_cons_succ]
        refine held_take (i := 13) (v := ?_) 107 rfl (by kernel_rfl) (by kernel_rfl) (by kernel_rfl) (fun _ _ _ h => h) rfl (by assumption) (Or.inl ⟨by rfl, ?_⟩) ?_
        rotate_left
        · intro w hSw; go_simp; (try with_reducible rfl)
        simp only [List.set_cons_zero, List.set_cons_succ]
        refine held_take (i := 14) (v := ?_) 108 rfl (by kernel_rfl) (by kernel_rfl) (by kernel_rfl) (fun _ _ _ h => h) rfl (by assumption) (Or.inl ⟨by rfl, ?_⟩) ?_
        rotate_left
        · intro w hSw; go_simp; (try with_reducible rfl)
        simp only [List.set_cons_zero, List.set_cons_succ]
        refine held_take (i := 15) (v := ?_) 109 rfl (by kernel_rfl) (by kernel_rfl) (by kernel_rfl) (fun _ _ _ h => h) rfl (by assumption) (Or.inl ⟨by rfl, ?_⟩) ?_
        rotate_left
        · intro w hSw; go_simp; (try with_reducible rfl)
        simp only [List.set_cons_zero, List.set_cons_succ]
        refine held_take (i := 17) (v := ?_) 111 rfl (by kernel_rfl) (by kernel_rfl) (by kernel_rfl) (fun _ _ _ h => h) rfl (by assumption) (Or.inl ⟨by rfl, ?_⟩) ?_
        rotate_left
        · intro w hSw; go_simp; (try with_reducible rfl)
        simp only [List.set_cons_zero, List.set_cons_succ]
        refine held_take (i := 18) (v := ?_) 112 rfl (by kernel_rfl) (by kernel_rfl) (by kernel_rfl) (fun _ _ _ h => h) rfl (by assumption) (Or.inl ⟨by rfl, ?_⟩) ?_
        rotate_left
        · intro w hSw; go_simp; (try with_reducible rfl)
        simp only [List.set_cons_zero, List.set_cons_succ]
        refine wpAnyH_ready (rs := [16]) (by kernel_rfl) (by simp) ?_
        refine (AllReadyH.cons rfl (fun K hK => ?_) AllReadyH.nil)
        go_simp
        refine (shalen_b H p g2 _ lb _ (hS.below hHeld) hsn.out).mono ?_
        rintro e w5x ⟨rfl, hb⟩
        have hbt := HB.trans hHeld hb
        have hB := hB.below hbt
        have hS := hS.below hbt
        have hT := hT.below hbt
        have hE := hE.step hbt
        have hB1 := hB1.below hbt
        have hB4 := hB4.below hbt
        go_wp2_with fail
        refine hK.out _ _ hbt (fun _ => held_next hbt (fun hHeld2 => ?_))
        clear hK hHeld hb hbt K
        have hHeld := hHeld2
        clear hHeld2
        refine held_take (i := 19) (v := ?_) 113 rfl (by kernel_rfl) (by kernel_rfl) (by kernel_rfl) (fun _ _ _ h => h) rfl (by assumption) (Or.inl ⟨by rfl, ?_⟩) ?_
        rotate_left
        · intro w hSw; go_simp; (try with_reducible rfl)
        simp only [List.set_cons_zero, List.set_cons_succ]
        refine held_take (i := 20) (v := ?_) 114 rfl (by kernel_rfl) (by kernel_rfl) (by kernel_rfl) (fun _ _ _ h => h) rfl (by assumption) (Or.inl ⟨by rfl, ?_⟩) ?_
        rotate_left
        · intro w hSw; go_simp; (try with_reducible rfl)
        simp only [List.set_cons_zero, List.set_cons_succ]
        refine wpAnyH_done (by kernel_rfl) ?_ _
        go_wp2_with fail
        go_meet
        exact ⟨rfl, hS.below hHeld, hT.below hHeld, hE.step hHeld⟩

      case rest =>
        obtain ⟨rfl, hS, hT, hE⟩ := hcut
        clear hB
        have hZ : Two wc H p q g2 h2 xb xb := ⟨hS, hT, HZ.out.1, HZ.out.2.1, HZ.out.2.2.1, HZ.out.2.2.2⟩
        go_wp2_with fail
        refine (HCm.out _).mono ?_
        rintro e wq ⟨rfl, rfl⟩
        go_wp2_with fail
        refine (two_write hZ HM.out hE HH.out.symm (by rw [hBl.out]; omega)).mono ?_
        rintro e w5 ⟨rfl, g3, hZ, hE⟩
        go_wp2_with fail
        refine (two_write hZ.swap HM.out hE HH.out.symm (by rw [hBl.out]; omega)).mono ?_
        rintro e w6 ⟨rfl, h3, hZ, hE⟩
        have hS := hZ.t
        have hT := hZ.s
        have hB := HXb.out.below (by rw [← HH.out]; exact hE.1)
        have hM := HM.out.below (by rw [← HH.out]; exact hE.1)
        have hsl2 := Lib.hid (show (xb ++ xm).length ≤ 1000000 by rw [List.length_append, hBl.out, hMl.out]; omega)
        have HM1 : Hid (([] ++ xb).length = lb) := Lib.hid hBl.out
        have HM2 : Hid (([] ++ xb ++ xm).length = lb + lm) := Lib.hid (by simp [hBl.out, hMl.out])
        clear hZ z1 z2 z3
        go_upto_region 27 with fail
        obtain ⟨wd, hwd⟩ : ∃ wd, wd = w6.drew := ⟨_, rfl⟩
        have hb : Below w6.heap.size w6 wd := by rw [hwd]; exact (Below.refl _ _).drew
        have hB := hB.below hb
        have hM := hM.below hb
        have hS := hS.below hb
        have hT := hT.below hb
        have hE := hE.step hb
        clear hb
        refine held_start (by kernel_rfl) (fun hHeld => ?_)
        rw [← hwd] at hHeld ⊢
        clear hwd
        refine held_take (i := 0) (v := ?_) 123 rfl (by kernel_rfl) (by kernel_rfl) (by kernel_rfl) (fun _ _ _ h => h) rfl (by assumption) (Or.inl ⟨by rfl, ?_⟩) ?_
        rotate_left
        · intro w hSw; go_simp; (try with_reducible rfl)
        simp only [List.set_cons_zero, List.set_cons_succ]
        refine held_take (i := 3) (v := ?_) 126 rfl (by kernel_rfl) (by kernel_rfl) (by kernel_rfl) (fun _ _ _ h => h) rfl (by assumption) (Or.inl ⟨by rfl, ?_⟩) ?_
        rotate_left
        · intro w hSw; go_simp; (try with_reducible rfl)
        simp only [List.set_cons_zero, List.set_cons_succ]
        refine wpAnyH_ready (rs := [1]) (by kernel_rfl) (by simp) ?_
        refine (AllReadyH.cons rfl (fun K hK => ?_) AllReadyH.nil)
        go_simp
        refine (shasum_st H p g3 _ _ (hS.below hHeld) hsl2.out).mono ?_
        rintro e w1x ⟨v1, rfl, ho1, hb⟩
        have hbt := HB.trans hHeld hb
        have hB := hB.below hbt
        have hM := hM.below hbt
        have hS := hS.below hbt
        have hT := hT.below hbt
        have hE := hE.step hbt
        obtain ⟨a1, c1, rfl, hB1⟩ := ho1.bsn (n := 32) (sha_length _)
        go_wp2_with fail
        refine hK.out _ _ hbt (fun _ => held_next hbt (fun hHeld2 => ?_))
        clear hK hHeld hb hbt K
        have hHeld := hHeld2
        clear hHeld2
        refine held_take (i := 2) (v := ?_) 125 rfl (by kernel_rfl) (by kernel_rfl) (by kernel_rfl) (fun _ _ _ h => h) rfl (by assumption) (Or.inl ⟨by rfl, ?_⟩) ?_
        rotate_left
        · intro w hSw; have hs := run_string (hB1.below hSw); go_simp; (try with_reducible rfl)
        simp only [List.set_cons_zero, List.set_cons_succ]
        refine wpAnyH_ready (rs := [4]) (by kernel_rfl) (by simp) ?_
        refine (AllReadyH.cons rfl (fun K hK => ?_) AllReadyH.nil)
        go_simp
        refine (shasum_st H q h3 _ _ (hT.below hHeld) hsl2.out).mono ?_
        rintro e w2x ⟨v4, rfl, ho4, hb⟩
        have hbt := HB.trans hHeld hb
        have hB := hB.below hbt
        have hM := hM.below hbt
        have hS := hS.below hbt
        have hT := hT.below hbt
        have hE := hE.step hbt
        have hB1 := hB1.below hbt
        obtain ⟨a4, c4, rfl, hB4⟩ := ho4.bsn (n := 32) (sha_length _)
        go_wp2_with fail
        refine hK.out _ _ hbt (fun _ => held_next hbt (fun hHeld2 => ?_))
        clear hK hHeld hb hbt K
        have hHeld := hHeld2
        clear hHeld2
        refine held_take (i := 5) (v := ?_) 128 rfl (by kernel_rfl) (by kernel_rfl) (by kernel_rfl) (fun _ _ _ h => h) rfl (by assumption) (Or.inl ⟨by rfl, ?_⟩) ?_
        rotate_left
        · intro w hSw; have hs := run_string (hB4.below hSw); go_simp; (try with_reducible rfl)
        simp only [List.set_cons_zero, List.set_cons_succ]
        refine held_take (i := 6) (v := ?_) 129 rfl (by kernel_rfl) (by kernel_rfl) (by kernel_rfl) (fun _ _ _ h => h) rfl (by assumption) (Or.inl ⟨by rfl, ?_⟩) ?_
        rotate_left
        · intro w hSw; go_simp; (try with_reducible rfl)
        simp only [List.set_cons_zero, List.set_cons_succ]
        refine held_take (i := 7) (v := ?_) 130 rfl (by kernel_rfl) (by kernel_rfl) (by kernel_rfl) (fun _ _ _ h => h) rfl (by assumption) (Or.inl ⟨by rfl, ?_⟩) ?_
        rotate_left
        · intro w hSw; go_simp; (try with_reducible rfl)
        simp only [List.set_cons_zero, List.set_cons_succ]
        refine held_take (i := 8) (v := ?_) 131 rfl (by kernel_rfl) (by kernel_rfl) (by kernel_rfl) (fun _ _ _ h => h) rfl (by assumption) (Or.inl ⟨by rfl, ?_⟩) ?_
        rotate_left
        · intro w hSw; go_simp; (try with_reducible rfl)
        simp only [List.set_cons_zero, List.set_cons_succ]
        refine held_take (i := 12) (v := ?_) 135 rfl (by kernel_rfl) (by kernel_rfl) (by kernel_rfl) (fun _ _ _ h => h) rfl (by assumption) (Or.inl ⟨by rfl, ?_⟩) ?_
        rotate_left
        · intro w hSw; go_simp; (try with_reducible rfl)
        simp only [List.set_cons_zero, List.set_cons_succ]
        refine held_take (i := 14) (v := ?_) 137 rfl (by kernel_rfl) (by kernel_rfl) (by kernel_rfl) (fun _ _ _ h => h) rfl (by assumption) (Or.inl ⟨by rfl, ?_⟩) ?_
        rotate_left
        · intro w hSw; go_simp; (try with_reducible rfl)
        simp only [List.set_cons_zero, List.set_cons_succ]
        refine wpAnyH_ready (rs := [9, 11]) (by kernel_rfl) (by simp) ?_
        refine (AllReadyH.cons rfl (fun K hK => ?_) (AllReadyH.cons rfl (fun K hK => ?_) AllReadyH.nil))
        · go_simp
          refine (shasum_st H p g3 _ _ (hS.below hHeld) hsl2.out).mono ?_
          rintro e w3x ⟨v9, rfl, ho9, hb⟩
          have hbt := HB.trans hHeld hb
          have hB := hB.below hbt
          have hM := hM.below hbt
          have hS := hS.below hbt
          have hT := hT.below hbt
          have hE := hE.step hbt
          have hB1 := hB1.below hbt
          have hB4 := hB4.below hbt
          obtain ⟨a9, c9, rfl, hB9⟩ := ho9.bsn (n := 32) (sha_length _)
          go_wp2_with fail
          refine hK.out _ _ hbt (fun _ => held_next hbt (fun hHeld2 => ?_))
          clear hK hHeld hb hbt K
          have hHeld := hHeld2
          clear hHeld2
          refine held_take (i := 10) (v := ?_) 133 rfl (by kernel_rfl) (by kernel_rfl) (by kernel_rfl) (fun _ _ _ h => h) rfl (by assumption) (Or.inl ⟨by rfl, ?_⟩) ?_
          rotate_left
          · intro w hSw; have hs := run_string (hB9.below hSw); go_simp; (try with_reducible rfl)
          simp only [List.set_cons_zero, List.set_cons_succ]
          refine wpAnyH_ready (rs := [11]) (by kernel_rfl) (by simp) ?_
          refine (AllReadyH.cons rfl (fun K hK => ?_) AllReadyH.nil)
          go_simp
          have hb : HB w3x (w3x.alloc (.cells #[] TB)) := (HB.refl _).alloc _
          have hbt := HB.trans hHeld hb
          have hB := hB.below hbt
          have hM := hM.below hbt
          have hS := hS.below hbt
          have hT := hT.below hbt
          have hE := hE.step hbt
          have hB1 := hB1.below hbt
          have hB4 := hB4.below hbt
          have hB9 := hB9.below hbt
          have hO11 : Own (w3x.alloc (.cells #[] TB)) 0 (.slice (some ⟨w3x.heap.size, 0, none⟩) 0 0) [] := (Own.empty' w3x).zero
          generalize w3x.alloc (.cells #[] TB) = w4x at *
          refine hK.out _ _ hbt (fun _ => held_next hbt (fun hHeld2 => ?_))
          clear hK hHeld hb hbt K
          have hHeld := hHeld2
          clear hHeld2
          refine wpAnyH_ready (rs := [13]) (by kernel_rfl) (by simp) ?_
          refine (AllReadyH.cons rfl (fun K hK => ?_) AllReadyH.nil)
          refine step_append_fr (by rfl) (.tmp 134) (.tmp 135) rfl _ _ [] ?_ ⟨(hO11.below hHeld).zero, .inr ⟨_, _, rfl⟩⟩ hHeld _ lb _ xb ?_ (hB.below hHeld) (by simp; omega) (fun v5x w5x hF hb => ?_)
          rfl
          rfl
          have hF13 := hF
          obtain ⟨a13, c13, rfl, hB13⟩ := hF.1.bsn (n := lb) HM1.out
          go_wp2_with fail
          refine hK.out _ _ hb (fun _ => ?_)
          clear hK hHeld K
          have hHeld := hb
          clear hb
          refine wpAnyH_ready (rs := [15]) (by kernel_rfl) (by simp) ?_
          refine (AllReadyH.cons rfl (fun K hK => ?_) AllReadyH.nil)
          refine step_append_fr (by rfl) (.tmp 136) (.tmp 137) rfl _ _ _ ?_ hF13 hHeld _ lm _ xm ?_ (hM.below hHeld) (by rw [HM1.out]; omega) (fun v6x w6x hF hb => ?_)
          rfl
          rfl
          obtain ⟨a15, c15, rfl, hB15⟩ := hF.1.bsn (n := lb + lm) HM2.out
          go_wp2_with fail
          refine hK.out _ _ hb (fun _ => ?_)
          clear hK hHeld K
          have hHeld := hb
          clear hb
          refine wpAnyH_ready (rs := [16]) (by kernel_rfl) (by simp) ?_
          refine (AllReadyH.cons rfl (fun K hK => ?_) AllReadyH.nil)
          go_simp
          refine (shasum_any _ _ _ _ _ hB15 (by omega)).mono ?_
          rintro e w7x ⟨v16, rfl, ho16, hb⟩
          have hbt := HB.trans hHeld hb
          have hB := hB.below hbt
          have hM := hM.below hbt
          have hS := hS.below hbt
          have hT := hT.below hbt
          have hE := hE.step hbt
          have hB1 := hB1.below hbt
          have hB4 := hB4.below hbt
          have hB9 := hB9.below hbt
          have hO11 := hO11.below hbt
          obtain ⟨a16, c16, rfl, hB16⟩ := ho16.bsn (n := 32) (sha_length _)
          go_wp2_with fail
          refine hK.out _ _ hbt (fun _ => held_next hbt (fun hHeld2 => ?_))
          clear hK hHeld hb hbt K
          have hHeld := hHeld2
          clear hHeld2
          refine held_take (i := 17) (v := ?_) 140 rfl (by kernel_rfl) (by kernel_rfl) (by kernel_rfl) (fun _ _ _ h => h) rfl (by assumption) (Or.inl ⟨by rfl, ?_⟩) ?_
          rotate_left
          · intro w hSw; have hs := run_string (hB16.below hSw); go_simp; (try with_reducible rfl)
          simp only [List.set_cons_zero, List.set_cons_succ]
          refine held_take (i := 18) (v := ?_) 141 rfl (by kernel_rfl) (by kernel_rfl) (by kernel_rfl) (fun _ _ _ h => h) rfl (by assumption) (Or.inl ⟨by rfl, ?_⟩) ?_
          rotate_left
          · intro w hSw; go_simp; (try with_reducible rfl)
          simp only [List.set_cons_zero, List.set_cons_succ]
          refine held_take (i := 19) (v := ?_) 142 rfl (by kernel_rfl) (by kernel_rfl) (by kernel_rfl) (fun _ _ _ h => h) rfl (by assumption) (Or.inl ⟨by rfl, ?_⟩) ?_
          rotate_left
          · intro w hSw; go_simp; (try with_reducible rfl)
          simp only [List.set_cons_zero, List.set_cons_succ]
          refine held_take (i := 20) (v := ?_) 143 rfl (by kernel_rfl) (by kernel_rfl) (by kernel_rfl) (fun _ _ _ h => h) rfl (by assumption) (Or.inl ⟨by rfl, ?_⟩) ?_
          rotate_left
          · intro w hSw; go_simp; (try with_reducible rfl)
          simp only [List.set_cons_zero, List.set_cons_succ]
          refine wpAnyH_ready (rs := [21]) (by kernel_rfl) (by simp) ?_
          refine (AllReadyH.cons rfl (fun K hK => ?_) AllReadyH.nil)
          go_simp
          refine (sha_known _).mono ?_
          rintro e w8x ⟨rfl, hb⟩
          have hbt := HB.trans hHeld hb
          have hB := hB.below hbt
          have hM := hM.below hbt
          have hS := hS.below hbt
          have hT := hT.below hbt
          have hE := hE.step hbt
          have hB1 := hB1.below hbt
          have hB4 := hB4.below hbt
          have hB9 := hB9.below hbt
          have hO11 := hO11.below hbt
          have hB16 := hB16.below hbt
          go_wp2_with fail
          refine hK.out _ _ hbt (fun _ => held_next hbt (fun hHeld2 => ?_))
          clear hK hHeld hb hbt K
          have hHeld := hHeld2
          clear hHeld2
          refine held_take (i := 22) (v := ?_) 145 rfl (by kernel_rfl) (by kernel_rfl) (by kernel_rfl) (fun _ _ _ h => h) rfl (by assumption) (Or.inl ⟨by rfl, ?_⟩) ?_
          rotate_left
          · intro w hSw; go_simp; (try with_reducible rfl)
          simp only [List.set_cons_zero, List.set_cons_succ]
          refine held_take (i := 23) (v := ?_) 8 rfl (by kernel_rfl) (by kernel_rfl) (by kernel_rfl) (fun _ _ _ h => h) rfl (by assumption) (Or.inl ⟨by rfl, ?_⟩) ?_
          rotate_left
          · intro w hSw; go_simp; (try with_reducible rfl)
          simp only [List.set_cons_zero, List.set_cons_succ]
          refine wpAnyH_done (by kernel_rfl) ?_ _
          go_wp2_with fail
          go_ret
          exact ⟨rfl, (hE.step hHeld).1⟩
        · go_simp
          have hb : HB w2x (w2x.alloc (.cells #[] TB)) := (HB.refl _).alloc _
          have hbt := HB.trans hHeld hb
          have hB := hB.below hbt
          have hM := hM.below hbt
          have hS := hS.below hbt
          have hT := hT.below hbt
          have hE := hE.step hbt
          have hB1 := hB1.below hbt
          have hB4 := hB4.below hbt
          have hO11 : Own (w2x.alloc (.cells #[] TB)) 0 (.slice (some ⟨w2x.heap.size, 0, none⟩) 0 0) [] := (Own.empty' w2x).zero
          generalize w2x.alloc (.cells #[] TB) = w9x at *
          refine hK.out _ _ hbt (fun _ => held_next hbt (fun hHeld2 => ?_))
          clear hK hHeld hb hbt K
          have hHeld := hHeld2
          clear hHeld2
          refine wpAnyH_ready (rs := [9]) (by kernel_rfl) (by simp) ?_
          refine (AllReadyH.cons rfl (fun K hK => ?_) AllReadyH.nil)
          go_simp
          refine (shasum_st H p g3 _ _ (hS.below hHeld) hsl2.out).mono ?_
          rintro e w10x ⟨v9, rfl, ho9, hb⟩
          have hbt := HB.trans hHeld hb
          have hB := hB.below hbt
          have hM := hM.below hbt
          have hS := hS.below hbt
          have hT := hT.below hbt
          have hE := hE.step hbt
          have hB1 := hB1.below hbt
          have hB4 := hB4.below hbt
          have hO11 := hO11.below hbt
          obtain ⟨a9, c9, rfl, hB9⟩ := ho9.bsn (n := 32) (sha_length _)
          go_wp2_with fail
          refine hK.out _ _ hbt (fun _ => held_next hbt (fun hHeld2 => ?_))
          clear hK hHeld hb hbt K
          have hHeld := hHeld2
          clear hHeld2
          refine held_take (i := 10) (v := ?_) 133 rfl (by kernel_rfl) (by kernel_rfl) (by kernel_rfl) (fun _ _ _ h => h) rfl (by assumption) (Or.inl ⟨by rfl, ?_⟩) ?_
          rotate_left
          · intro w hSw; have hs := run_string (hB9.below hSw); go_simp; (try with_reducible rfl)
          simp only [List.set_cons_zero, List.set_cons_succ]
          refine wpAnyH_ready (rs := [13]) (by kernel_rfl) (by simp) ?_
          refine (AllReadyH.cons rfl (fun K hK => ?_) AllReadyH.nil)
          refine step_append_fr (by rfl) (.tmp 134) (.tmp 135) rfl _ _ [] ?_ ⟨(hO11.below hHeld).zero, .inr ⟨_, _, rfl⟩⟩ hHeld _ lb _ xb ?_ (hB.below hHeld) (by simp; omega) (fun v11x w11x hF hb => ?_)
          rfl
          rfl
          have hF13 := hF
          obtain ⟨a13, c13, rfl, hB13⟩ := hF.1.bsn (n := lb) HM1.out
          go_wp2_with fail
          refine hK.out _ _ hb (fun _ => ?_)
          clear hK hHeld K
          have hHeld := hb
          clear hb
          refine wpAnyH_ready (rs := [15]) (by kernel_rfl) (by simp) ?_
          refine (AllReadyH.cons rfl (fun K hK => ?_) AllReadyH.nil)
          refine step_append_fr (by rfl) (.tmp 136) (.tmp 137) rfl _ _ _ ?_ hF13 hHeld _ lm _ xm ?_ (hM.below hHeld) (by rw [HM1.out]; omega) (fun v12x w12x hF hb => ?_)
          rfl
          rfl
          obtain ⟨a15, c15, rfl, hB15⟩ := hF.1.bsn (n := lb + lm) HM2.out
          go_wp2_with fail
          refine hK.out _ _ hb (fun _ => ?_)
          clear hK hHeld K
          have hHeld := hb
          clear hb
          refine wpAnyH_ready (rs := [16]) (by kernel_rfl) (by simp) ?_
          refine (AllReadyH.cons rfl (fun K hK => ?_) AllReadyH.nil)
          go_simp
          refine (shasum_any _ _ _ _ _ hB15 (by omega)).mono ?_
          rintro e w13x ⟨v16, rfl, ho16, hb⟩
          have hbt := HB.trans hHeld hb
          have hB := hB.below hbt
          have hM := hM.below hbt
          have hS := hS.below hbt
          have hT := hT.below hbt
          have hE := hE.step hbt
          have hB1 := hB1.below hbt
          have hB4 := hB4.below hbt
          have hO11 := hO11.below hbt
          have hB9 := hB9.below hbt
          obtain ⟨a16, c16, rfl, hB16⟩ := ho16.bsn (n := 32) (sha_length _)
          go_wp2_with fail
          refine hK.out _ _ hbt (fun _ => held_next hbt (fun hHeld2 => ?_))
          clear hK hHeld hb hbt K
          have hHeld := hHeld2
          clear hHeld2
          refine held_take (i := 17) (v := ?_) 140 rfl (by kernel_rfl) (by kernel_rfl) (by kernel_rfl) (fun _ _ _ h => h) rfl (by assumption) (Or.inl ⟨by rfl, ?_⟩) ?_
          rotate_left
          · intro w hSw; have hs := run_string (hB16.below hSw); go_simp; (try with_reducible rfl)
          simp only [List.set_cons_zero, List.set_cons_succ]
          refine held_take (i := 18) (v := ?_) 141 rfl (by kernel_rfl) (by kernel_rfl) (by kernel_rfl) (fun _ _ _ h => h) rfl (by assumption) (Or.inl ⟨by rfl, ?_⟩) ?_
          rotate_left
          · intro w hSw; go_simp; (try with_reducible rfl)
          simp only [List.set_cons_zero, List.set_cons_succ]
          refine held_take (i := 19) (v := ?_) 142 rfl (by kernel_rfl) (by kernel_rfl) (by kernel_rfl) (fun _ _ _ h => h) rfl (by assumption) (Or.inl ⟨by rfl, ?_⟩) ?_
          rotate_left
          · intro w hSw; go_simp; (try with_reducible rfl)
          simp only [List.set_cons_zero, List.set_cons_succ]
          refine held_take (i := 20) (v := ?_) 143 rfl (by kernel_rfl) (by kernel_rfl) (by kernel_rfl) (fun _ _ _ h => h) rfl (by assumption) (Or.inl ⟨by rfl, ?_⟩) ?_
          rotate_left
          · intro w hSw; go_simp; (try with_reducible rfl)
          simp only [List.set_cons_zero, List.set_cons_succ]
          refine wpAnyH_ready (rs := [21]) (by kernel_rfl) (by simp) ?_
          refine (AllReadyH.cons rfl (fun K hK => ?_) AllReadyH.nil)
          go_simp
          refine (sha_known _).mono ?_
          rintro e w14x ⟨rfl, hb⟩
          have hbt := HB.trans hHeld hb
          have hB := hB.below hbt
          have hM := hM.below hbt
          have hS := hS.below hbt
          have hT := hT.below hbt
          have hE := hE.step hbt
          have hB1 := hB1.below hbt
          have hB4 := hB4.below hbt
          have hO11 := hO11.below hbt
          have hB9 := hB9.below hbt
          have hB16 := hB16.below hbt
          go_wp2_with fail
          refine hK.out _ _ hbt (fun _ => held_next hbt (fun hHeld2 => ?_))
          clear hK hHeld hb hbt K
          have hHeld := hHeld2
          clear hHeld2
          refine held_take (i := 22) (v := ?_) 145 rfl (by kernel_rfl) (by kernel_rfl) (by kernel_rfl) (fun _ _ _ h => h) rfl (by assumption) (Or.inl ⟨by rfl, ?_⟩) ?_
          rotate_left
          · intro w hSw; go_simp; (try with_reducible rfl)
          simp only [List.set_cons_zero, List.set_cons_succ]
          refine held_take (i := 23) (v := ?_) 8 rfl (by kernel_rfl) (by kernel_rfl) (by kernel_rfl) (fun _ _ _ h => h) rfl (by assumption) (Or.inl ⟨by rfl, ?_⟩) ?_
          rotate_left
          · intro w hSw; go_simp; (try with_reducible rfl)
          simp only [List.set_cons_zero, List.set_cons_succ]
          refine wpAnyH_done (by kernel_rfl) ?_ _
          go_wp2_with fail
          go_ret
          exact ⟨rfl, (hE.step hHeld).1⟩


end Go.Proofs.Ytmjlndfkddacbaa
