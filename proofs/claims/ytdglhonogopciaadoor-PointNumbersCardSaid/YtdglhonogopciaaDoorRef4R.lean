/- Contracts of permafrostref4.Reader. -/
import Derived.Test.YtdglhonogopciaaDoorRef4
import Derived.Deep.DeepCutAuto
namespace Go.Proofs.YtdglhonogopciaaDoor
open Go.RowKit

/-- the document's reader: block q holds the bytes ys, how many were read, and the refusal; s is what is left, and the refusal -/
def RR (w : World) (B q : Nat) (ys : List UInt8) (s : List UInt8 × Nat) : Prop :=
  B ≤ q ∧ ys.length ≤ big ∧ ∃ a cap, w.heap[q]? = some (.cells #[.slice a ys.length cap, .int .i64 ((ys.length - s.1.length : Nat) : Int), .int .i64 (s.2 : Int)] 84 (0, 0)) ∧ Bs w a ys.length cap ys ∧ s.1.length ≤ ys.length ∧ s.1 = ys.drop (ys.length - s.1.length) ∧ (ys.length = 0 ∨ ∃ ad, a = some ad ∧ ad.block < q)

theorem RR.lt {w : World} {B q : Nat} {ys : List UInt8} {s : List UInt8 × Nat} (h : RR w B q ys s) : q < w.heap.size := by
  obtain ⟨_, _, a, cap, h1, _⟩ := h
  exact (Array.getElem?_eq_some_iff.1 h1).1
theorem RR.chg {w w' : World} {B q : Nat} {ys : List UInt8} {s : List UInt8 × Nat} (h : RR w B q ys s) (hb : Below w.heap.size w w') : RR w' B q ys s := by
  have hlt := h.lt
  obtain ⟨h0, hg, a, cap, h1, h2, h3⟩ := h
  exact ⟨h0, hg, a, cap, (hb.block q hlt).trans h1, h2.below hb, h3⟩
theorem three_cells {w : World} {b : Nat} {u v x : Value} {t : TypeId} (h : w.heap[b]? = some (.cells #[u, v, x] t (0, 0))) :
    w.cell? ⟨b, 0, none⟩ = some u ∧ w.cell? ⟨b, 1, none⟩ = some v ∧ w.cell? ⟨b, 2, none⟩ = some x ∧ w.frozen? ⟨b, 0, none⟩ = false ∧ w.frozen? ⟨b, 1, none⟩ = false ∧ w.frozen? ⟨b, 2, none⟩ = false := by simp [World.cell?, World.frozen?, h]
theorem three_set1 {w : World} {b : Nat} {u v x y : Value} {t : TypeId} (h : w.heap[b]? = some (.cells #[u, v, x] t (0, 0))) : (w.setCell ⟨b, 1, none⟩ y).heap[b]? = some (.cells #[u, y, x] t (0, 0)) := by
  simp [World.setCell, Array.getElem?_modify, h]
theorem three_set2 {w : World} {b : Nat} {u v x y : Value} {t : TypeId} (h : w.heap[b]? = some (.cells #[u, v, x] t (0, 0))) : (w.setCell ⟨b, 2, none⟩ y).heap[b]? = some (.cells #[u, v, y] t (0, 0)) := by
  simp [World.setCell, Array.getElem?_modify, h]
/-- what a call on it leaves -/
def RRPost (w : World) (B q : Nat) (ys : List UInt8) (s : List UInt8 × Nat) (w' : World) : Prop := RR w' B q ys s ∧ Chg (fun k => k = q) w w'
theorem RRPost.trans {w w1 w2 : World} {B q : Nat} {ys : List UInt8} {s : List UInt8 × Nat} (hc : Chg (fun k => k = q) w w1) (h : RRPost w1 B q ys s w2) : RRPost w B q ys s w2 :=
  ⟨h.1, hc.trans h.2 (fun _ _ h => h)⟩
theorem bs_chg {w w' : World} {q : Nat} {a : Option Addr} {len cap : Nat} {ys : List UInt8} (hc : Chg (fun k => k = q) w w') (h2 : Bs w a len cap ys) (h5 : len = 0 ∨ ∃ ad, a = some ad ∧ ad.block < q) : Bs w' a len cap ys := by
  rcases h5 with h5 | h5
  · exact ⟨h2.1, h2.2.1, h2.2.2.1, .inl h5⟩
  · obtain ⟨ad, rfl, hl⟩ := h5
    exact hc.bs h2 (fun ad' had e => by cases had; omega)
theorem RR.new {w : World} {a : Option Addr} {len cap : Nat} {ys : List UInt8} (h : Bs w a len cap ys) (hl : len ≤ big) : RR (w.alloc (.cells #[.slice a len cap, .int .i64 0, .int .i64 0] 84)) w.heap.size w.heap.size ys (ys, 0) := by
  obtain rfl := h.1
  refine ⟨Nat.le_refl _, hl, a, cap, ?_, h.alloc _, Nat.le_refl _, by simp, ?_⟩
  · rw [heap_alloc_new w]; simp
  · rcases h.2.2.2 with h0 | ⟨b, off, rfl, hb, _⟩
    · exact .inl h0
    · exact .inr (by simp; omega)
theorem RR.other {w w' : World} {B q : Nat} {ys : List UInt8} {s : List UInt8 × Nat} {S : Nat → Prop} (h : RR w B q ys s) (hc : Chg S w w') (hs : ∀ k, k ≤ q → ¬ S k) : RR w' B q ys s := by
  have hlt := h.lt
  obtain ⟨h0, hg, a, cap, h1, h2, h3, h4, h5⟩ := h
  refine ⟨h0, hg, a, cap, (hc.block q hlt (hs q (Nat.le_refl _))).trans h1, ?_, h3, h4, h5⟩
  rcases h5 with h5 | ⟨ad, rfl, hl⟩
  · exact ⟨h2.1, h2.2.1, h2.2.2.1, .inl h5⟩
  · exact hc.bs h2 (fun ad' had => by cases had; exact hs _ (Nat.le_of_lt hl))
theorem RR.set {w : World} {B q Z i : Nat} {ys : List UInt8} {s : List UInt8 × Nat} (h : RR w B q ys s) (hZ : q < Z) (v : Value) : RR (w.setCell ⟨Z, i, none⟩ v) B q ys s :=
  h.other (S := fun k => k = Z) (Chg.setCell (S := fun k => k = Z) (p := ⟨Z, i, none⟩) (Chg.refl _ _) (fun _ => rfl) _) (fun k hk e => by omega)
theorem RR.set_why {w : World} {B q : Nat} {ys : List UInt8} {s : List UInt8 × Nat} (h : RR w B q ys s) (y : Nat) : RRPost w B q ys (s.1, y) (w.setCell ⟨q, 2, none⟩ (.int .i64 (y : Int))) := by
  have hc : Chg (fun k => k = q) w (w.setCell ⟨q, 2, none⟩ (.int .i64 (y : Int))) := Chg.setCell (S := fun k => k = q) (p := ⟨q, 2, none⟩) (Chg.refl _ _) (fun _ => rfl) _
  obtain ⟨h0, hg, a, cap, h1, h2, h3, h4, h5⟩ := h
  refine ⟨⟨h0, hg, a, cap, three_set2 h1, bs_chg hc h2 h5, h3, h4, h5⟩, hc⟩
theorem RR.set_at {w : World} {B q : Nat} {ys : List UInt8} {s : List UInt8 × Nat} (h : RR w B q ys s) (n : Nat) (hn : n ≤ s.1.length) : RRPost w B q ys (s.1.drop n, s.2) (w.setCell ⟨q, 1, none⟩ (.int .i64 ((ys.length - s.1.length + n : Nat) : Int))) := by
  have hc : Chg (fun k => k = q) w (w.setCell ⟨q, 1, none⟩ (.int .i64 ((ys.length - s.1.length + n : Nat) : Int))) := Chg.setCell (S := fun k => k = q) (p := ⟨q, 1, none⟩) (Chg.refl _ _) (fun _ => rfl) _
  obtain ⟨h0, hg, a, cap, h1, h2, h3, h4, h5⟩ := h
  have e1 : ys.length - (s.1.drop n).length = ys.length - s.1.length + n := by simp; omega
  refine ⟨⟨h0, hg, a, cap, ?_, bs_chg hc h2 h5, by simp; omega, ?_, h5⟩, hc⟩
  · have := three_set1 (y := .int .i64 ((ys.length - s.1.length + n : Nat) : Int)) h1
    simp only [e1]
    exact this
  · simp only [e1]
    rw [← List.drop_drop, ← h4]

set_option maxHeartbeats 4000000 in
set_option maxRecDepth 100000 in
theorem rref_raw (B q : Nat) (ys xs : List UInt8) (why : Nat) (n : Int) (w : World) (h : RR w B q ys (xs, why)) (hn : n ≤ 65535) :
    Calls Tryd.prog 48 #[.pointer (some ⟨q, 0, none⟩), .int .i64 n] w fun e w' => ∃ v, e = .returned v ∧ Own w' w.heap.size v (rdRaw (xs, why) n).1 ∧ RRPost w B q ys (rdRaw (xs, why) n).2 w' := by
  have hH := h
  have hlt := h.lt
  obtain ⟨h0, hg, a, cap, h1, h2, h3, h4, h5⟩ := h
  simp only at h1 h3 h4
  obtain ⟨c0, c1, c2, f0, f1, f2⟩ := three_cells h1
  obtain ⟨at0, hat⟩ : ∃ at0, at0 = ys.length - xs.length := ⟨_, rfl⟩
  have hat2 : at0 ≤ ys.length := by omega
  rw [← hat] at c1 h1 h4
  unfold rdRaw
  simp only
  by_cases hw : why ≠ 0
  · rw [if_pos hw]
    have e1 : ((why : Int) != 0) = true := by rw [bne_iff_ne]; omega
    go_enter Tryd.func48, Tryd.ntmps48
    clear h4 h5 hat hw h1
    go_wp2_with fail
    go_ret
    exact ⟨_, rfl, Own.nil _ _, hH, Chg.refl _ _⟩
  · obtain rfl : why = 0 := by omega
    rw [if_neg (by simp)]
    by_cases hn1 : n < 1
    · rw [if_neg (by omega), if_pos hn1]
      go_enter Tryd.func48, Tryd.ntmps48
      clear h4 h5 hat hw h1
      go_wp2_with fail
      go_ret
      exact ⟨_, rfl, Own.nil _ _, hH, Chg.refl _ _⟩
    · obtain ⟨m, rfl⟩ := Int.eq_ofNat_of_zero_le (show 0 ≤ n by omega)
      have hgb : ys.length ≤ 140737488355328 := hg
      have hsub : IntKind.i64.wrap ((ys.length : Int) - (at0 : Int)) = (xs.length : Int) := by rw [IntWalk.i64_in _ (by omega)]; omega
      have hm1 : (1 : Int) ≤ (m : Int) := by omega
      by_cases hlm : (xs.length : Int) < (m : Int)
      · rw [if_pos hlm]
        have hP := RRPost.trans (Chg.refl _ w).drew ((hH.chg (Below.refl _ _).drew).set_why 10)
        go_enter Tryd.func48, Tryd.ntmps48
        clear h4 h5 hat hw h1 hn1 hgb
        go_wp2_with fail
        go_region
        go_wp2_with fail
        go_ret
        exact ⟨_, rfl, Own.nil _ _, hP⟩
      · rw [if_neg hlm, if_neg hn1]
        have hd : decide ((xs.length : Int) < (m : Int)) = false := decide_eq_false hlm
        have hcap := h2.2.1
        have hadd : IntKind.i64.wrap ((at0 : Int) + (m : Int)) = (at0 : Int) + (m : Int) := IntWalk.i64_in _ (by omega)
        have b1 : (0 : Int) ≤ (at0 : Int) + (m : Int) := by omega
        have b2 : (at0 : Int) + (m : Int) ≤ (cap : Int) := by omega
        have b3 : ((at0 : Int) + (m : Int)).toNat = at0 + m := by omega
        have b4 : ¬ cap = at0 := by omega
        have b5 : at0 ≤ at0 + m := by omega
        have hT := (h2.take (k := at0 + m) (by omega)).drop (k := at0) (by omega)
        rw [if_neg b4, show at0 + m - at0 = m by omega, List.drop_take, show at0 + m - at0 = m by omega, ← h4] at hT
        have hxm : m ≤ xs.length := by omega
        have hO := Own.empty w
        have hE0 := ((Ext.refl w).alloc (.cells #[] TB)).drew.drew
        have HS := Lib.hid (fun w => RR.set_at (w := w) (B := B) (q := q) (ys := ys) (s := (xs, 0)) (n := m))
        have HA := Lib.hid hat
        have hL : ([] : List UInt8).length + m ≤ 140737488355328 := by simp; omega
        go_enter Tryd.func48, Tryd.ntmps48
        clear h4 h5 hat hw h1 hn1 hgb
        go_wp2_with fail
        go_region
        go_upto_region 6 with fail
        go_cut [5] (fun v wx => Own wx w.heap.size v (xs.take m) ∧ Ext w.heap.size w wx)
        case first =>
          go_region_law (have hX1 := hO.below (Below.refl _ _).drew.drew; have hX2 := hT.below hE0.1; have hX3 := hE0.2; refine step_append_at rfl (.tmp 30) (.tmp 45) rfl w.heap.size _ [] ?_ hX1 _ m _ (xs.take m) ?_ hX2 hL hX3 (fun v' w1 h1 h2 h3 => ?_); (rfl); (rfl); have hE1 := hE0.grown h2 hO.blk; have k1 := hE1.cel hlt c1; have k2 := hE1.frz hlt f1)
          all_goals (go_wp2_with fail; go_meet; exact ⟨by simpa using h1, hE1⟩)
        case rest =>
          obtain ⟨ho, hEc⟩ := hcut
          have k1 := hEc.cel hlt c1
          have k2 := hEc.frz hlt f1
          have hP : RRPost wc B q ys (xs.drop m, 0) (wc.setCell ⟨q, 1, none⟩ (.int .i64 ((at0 : Int) + (m : Int)))) := by
            have := HS.out _ (hH.chg hEc.1) hxm
            simpa [← HA.out] using this
          go_wp2_with fail
          go_ret
          refine ⟨_, rfl, ?_, RRPost.trans (Chg.of_below hEc.1 _) hP⟩
          rcases ho.parts with ⟨h1, h2⟩ | ⟨g, c, h1, h2, h3⟩
          · rw [h1]; rw [show (m : Int).toNat = m from rfl, h2]; exact Own.nil _ _
          · rw [h1]; exact Own.of_row (h3.setOther (a := ⟨q, 1, none⟩) (by show g ≠ q; omega) _) h2

theorem rref_num (B q : Nat) (ys xs : List UInt8) (why : Nat) (n : Nat) (w : World) (h : RR w B q ys (xs, why)) (hn : n ≤ 8) :
    Calls Tryd.prog 62 #[.pointer (some ⟨q, 0, none⟩), .int .i64 (n : Int)] w fun e w' => e = .returned (.int .u64 (num (rdRaw (xs, why) n).1 : Nat)) ∧ RRPost w B q ys (rdRaw (xs, why) n).2 w' := by
  have hl : (rdRaw (xs, why) n).1.length ≤ 8 := Nat.le_trans (rdRaw_len _ _) hn
  have hC := rref_raw B q ys xs why n w h (by omega)
  generalize (rdRaw (xs, why) n).1 = zs at *
  generalize (rdRaw (xs, why) n).2 = s at *
  go_enter Tryd.func62, Tryd.ntmps62
  go_wp2_with fail
  refine hC.mono ?_
  clear hC
  rintro e w1 ⟨v, rfl, ho, hP⟩
  obtain ⟨a, cap, rfl, hB⟩ := ho.bs
  go_wp2_with fail
  go_loop [6, 7] (fun t i => ∃ k : Nat, k ≤ zs.length ∧ i = .int .i64 k ∧ t = .int .u64 (num (zs.take k) : Nat)) (fun _ i => zs.length - (intOf i).toNat)
  case atStart => exact ⟨0, by omega, rfl, rfl⟩
  case round =>
    obtain ⟨k, hk, rfl, rfl⟩ := hrel
    by_cases hlt : k < zs.length
    · obtain ⟨b, off, ha, hb, hc⟩ : ∃ b off, a = some ⟨b, off, none⟩ ∧ b < w1.heap.size ∧ ∀ i (h : i < zs.length), w1.cell? ⟨b, off + i, none⟩ = some (.int .u8 (zs[i].toNat : Int)) := by
        rcases hB.2.2.2 with h | h
        · omega
        · exact h
      subst ha
      have hck := hc k hlt
      have hor := or_byte (num (zs.take k)) (zs[k]).toNat (by
        have h1 := num_lt (zs.take k)
        have h2 : (256 : Nat) ^ (zs.take k).length ≤ 256 ^ 7 := Nat.pow_le_pow_right (by omega) (by simp; omega)
        omega) (UInt8.toNat_lt _)
      rw [← num_snoc, ← List.take_succ_eq_append_getElem hlt] at hor
      have HO := Lib.hid hor
      clear hor
      have hyl := (zs[k]).toNat_lt
      go_wp2_with fail
      rw [HO.out]
      go_round
      case rel => exact ⟨k + 1, by omega, by go_num, rfl⟩
      case measure => simp [intOf]; omega
    · obtain rfl : k = zs.length := by omega
      go_wp2_with fail
      go_ret
      exact ⟨rfl, hP⟩
theorem rref_short (B q : Nat) (ys : List UInt8) (s : List UInt8 × Nat) (w : World) (h : RR w B q ys s) :
    Calls Tryd.prog 47 #[.pointer (some ⟨q, 0, none⟩)] w fun e w' => e = .returned (.int .i64 ((rdShort s).1 : Nat)) ∧ RRPost w B q ys (rdShort s).2 w' := by
  have hC := rref_num B q ys s.1 s.2 2 w h (by omega)
  have hl := rdShort_lt s
  change Calls _ _ _ _ (fun e w' => e = .returned (.int .u64 ((rdShort s).1 : Nat)) ∧ RRPost w B q ys (rdShort s).2 w') at hC
  generalize (rdShort s).1 = n at *
  generalize (rdShort s).2 = t at *
  go_enter Tryd.func47, Tryd.ntmps47
  go_wp2_with fail
  refine hC.mono ?_
  clear hC
  rintro e w1 ⟨rfl, hP⟩
  go_wp2_with fail
  go_ret
  exact ⟨rfl, hP⟩
theorem rref_long (B q : Nat) (ys : List UInt8) (s : List UInt8 × Nat) (w : World) (h : RR w B q ys s) :
    Calls Tryd.prog 46 #[.pointer (some ⟨q, 0, none⟩)] w fun e w' => e = .returned (.int .u64 ((rdLong s).1 : Nat)) ∧ RRPost w B q ys (rdLong s).2 w' := by
  have hC := rref_num B q ys s.1 s.2 8 w h (by omega)
  change Calls _ _ _ _ (fun e w' => e = .returned (.int .u64 ((rdLong s).1 : Nat)) ∧ RRPost w B q ys (rdLong s).2 w') at hC
  generalize (rdLong s).1 = n at *
  generalize (rdLong s).2 = t at *
  go_enter Tryd.func46, Tryd.ntmps46
  go_wp2_with fail
  refine hC.mono ?_
  clear hC
  rintro e w1 ⟨rfl, hP⟩
  go_wp2_with fail
  go_ret
  exact ⟨rfl, hP⟩
end Go.Proofs.YtdglhonogopciaaDoor
