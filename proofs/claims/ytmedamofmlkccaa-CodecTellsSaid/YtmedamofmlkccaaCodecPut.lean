/- The law's own function put, of chapter 4: a part written by both. -/
import Derived.Test.YtmedamofmlkccaaRef10
import Derived.Test.YtmedamofmlkccaaCut
import Derived.Test.YtmedamofmlkccaaTools
import Derived.Deep.DeepCutAuto
namespace Go.Proofs.Ytmedamofmlkccaa
open Go.RowKit

theorem lenBytes_le' (ys : List UInt8) : (lenBytes ys).length ≤ ys.length + 2 := by simp [lenBytes, be_length]; omega
/-- what put leaves -/
def PutPost (w : World) (B p : Nat) (g : Option Nat) (L : List UInt8) (e : Ending) (w' : World) : Prop :=
  ∃ v' L' g', e = .returned v' ∧ Own w' w.heap.size v' L' ∧ Wr w' B p g' L' ∧ Chg (WS p g) w w' ∧ (g' = g ∨ ∃ k, g' = some k ∧ w.heap.size ≤ k) ∧ (∀ k, v'.ownBlock = some k → ¬ WS p g' k) ∧ L'.length ≤ L.length + 110
theorem PutPost.of {w w2 w3 : World} {B p : Nat} {g : Option Nat} {L L' : List UInt8} {v : Value} (hp : p < w.heap.size) (hP : WPost w B p g L' w2) (hb : Below w2.heap.size w2 w3) (ho : Own w3 w2.heap.size v L') (hl : L'.length ≤ L.length + 110) : PutPost w B p g L (.returned v) w3 := by
  obtain ⟨g', hW, hC, hG⟩ := hP
  refine ⟨v, L', g', rfl, ho.base hC.size, hW.below hb, hC.step hb, hG, fun k hk hws => ?_, hl⟩
  have hk2 := ho.blk k hk
  rcases hws with rfl | rfl
  · have := hC.size; omega
  · have := hW.row_lt.1; omega

theorem bs_chgS {w w' : World} {S : Nat → Prop} {a : Option Addr} {len cap : Nat} {xs : List UInt8} (hc : Chg S w w') (h : Bs w a len cap xs) (ha : 0 < len → ∀ ad, a = some ad → ¬ S ad.block) : Bs w' a len cap xs := by
  rcases Nat.eq_zero_or_pos len with h0 | h0
  · exact ⟨h.1, h.2.1, h.2.2.1, .inl h0⟩
  · exact hc.bs h (ha h0)

set_option maxHeartbeats 4000000 in
set_option maxRecDepth 100000 in
theorem lput_any (B p : Nat) (g : Option Nat) (L : List UInt8) (a : Option Addr) (cap : Nat) (kind : Int) (N : Nat) (ab : Option Addr) (lb cb : Nat) (ys : List UInt8) (w : World) (hW : Wr w B p g L) (hB : Bs w a L.length cap L) (hap : 0 < L.length → ∀ ad, a = some ad → ¬ WS p g ad.block)
    (hY : Bs w ab lb cb ys) (hyap : 0 < lb → ∀ ad, ab = some ad → ¬ WS p g ad.block) (hl : L.length ≤ 100000) :
    Calls Try.prog 32 #[.pointer (some ⟨p, 0, none⟩), .slice a L.length cap, .agg #[.int .i64 kind, .int .u64 (N : Int), .slice ab lb cb]] w (PutPost w B p g L) := by
  have hlp := hW.lt
  have hlc := hY.2.1
  have D := cell_new w #[.int .i64 kind, .int .u64 (N : Int), .slice ab lb cb] 39
  have c0 := D 0; have c1 := D 1; have c2 := D 2
  simp only [List.getElem?_toArray, List.getElem?_cons_zero, List.getElem?_cons_succ] at c0 c1 c2
  have hb0 : Below w.heap.size w (w.alloc (.cells #[.int .i64 kind, .int .u64 (N : Int), .slice ab lb cb] 39)) := (Below.refl _ _).alloc (Nat.le_refl _) _
  have hsH := size_alloc w (.cells #[.int .i64 kind, .int .u64 (N : Int), .slice ab lb cb] 39)
  have hW1 := hW.below hb0
  have hB1 := hB.below hb0
  have hT : Bs w ab (min lb 100) cb (ys.take (min lb 100)) := hY.take (Nat.min_le_left _ _)
  have hT1 := hT.below hb0
  have HCut := Lib.hid (fun W => cut_any 100 ab lb cb W hlc (by omega))
  have hm100 : min lb 100 ≤ 100 := Nat.min_le_right _ _
  have hyap' : 0 < min lb 100 → ∀ ad, ab = some ad → ¬ WS p g ad.block := fun h => hyap (by omega)
  generalize min lb 100 = m at *
  generalize ys.take m = zs at *
  have hzl : zs.length = m := hT.1
  have hC0 : Chg (WS p g) w (w.alloc (.cells #[.int .i64 kind, .int .u64 (N : Int), .slice ab lb cb] 39)) := Chg.of_below hb0 _
  obtain ⟨H, hH⟩ : ∃ H, H = w.heap.size := ⟨_, rfl⟩
  rw [← hH] at c0 c1 c2 hsH
  have hpH : ∀ k, WS p g k → k < H := fun k hk => by
    rcases hk with rfl | rfl
    · omega
    · rw [hH]; exact (hW.row_lt).1
  have HH := Lib.hid hH
  clear D hB hY hT hb0 hyap hW hH
  go_enter Try.func32, Try.ntmps32
  go_upto_region 1 with fail
  rw [← HH.out]
  generalize w.alloc (.cells #[.int .i64 kind, .int .u64 (N : Int), .slice ab lb cb] 39) = w1 at *
  go_wp2_with fail
  refine (HCut.out _).mono ?_
  rintro e wq ⟨rfl, rfl⟩
  have hNm : (N : Int).tmod 1099511627776 = ((N % 1099511627776 : Nat) : Int) := by rw [Int.tmod_eq_emod_of_nonneg (by omega)]; omega
  have hn40 : N % 1099511627776 < 1099511627776 := Nat.mod_lt _ (by decide)
  obtain ⟨n, hn⟩ : ∃ n, n = N % 1099511627776 := ⟨_, rfl⟩
  rw [← hn] at hNm hn40
  have hnw : IntKind.i64.wrap (n : Int) = (n : Int) := IntWalk.i64_in _ (by omega)
  obtain ⟨f, hf⟩ : ∃ f, f = ((n : Int) % 2 == 1) := ⟨_, rfl⟩
  have hff : ((n : Int) % 2 == 1) = f := hf.symm
  have hgl : L.length + 65545 ≤ big := by unfold big; omega
  have HAP := Lib.hid hap
  have HYP := Lib.hid hyap'
  clear hn hf hap hyap'
  by_cases h1 : kind = 1
  · subst h1
    have HW := Lib.hid (wbyte_any B p n g L w1 hW1 (by omega) (by omega))
    go_wp2_with fail
    refine HW.out.mono ?_
    rintro e w2 ⟨rfl, hP⟩
    have hP0 : WPost w B p g (L ++ [UInt8.ofNat n]) w2 := WPost.trans hC0 (.inl rfl) hP
    obtain ⟨g2, hW2, hC2, hG2⟩ := hP
    have hB2 := bs_chgS hC2 hB1 HAP.out
    have hT2 := bs_chgS hC2 hT1 HYP.out
    have c1 := (hC2.cell (b := H) (o := 1) hsH (fun h => Nat.lt_irrefl _ (hpH _ h))).trans c1
    clear HW hW2 hG2 hC2
    go_wp2_with fail
    refine (ref_byte a L.length cap L n w2 hB2 (by omega)).mono ?_
    rintro e w3 ⟨v3, rfl, ho3, hb3⟩
    rw [show be n 1 = [UInt8.ofNat n] by simp [be]] at ho3
    go_wp2_with fail
    go_ret
    exact PutPost.of hlp hP0 hb3 ho3 (by simp)
  have h1 : (kind == 1) = false := by rw [beq_eq_false_iff_ne]; exact h1
  by_cases h2 : kind = 2
  · subst h2
    have HW := Lib.hid (wshort_any B p n g L w1 hW1 (by omega) (by omega))
    go_wp2_with fail
    refine HW.out.mono ?_
    rintro e w2 ⟨rfl, hP⟩
    have hP0 : WPost w B p g (L ++ be n 2) w2 := WPost.trans hC0 (.inl rfl) hP
    obtain ⟨g2, hW2, hC2, hG2⟩ := hP
    have hB2 := bs_chgS hC2 hB1 HAP.out
    have hT2 := bs_chgS hC2 hT1 HYP.out
    have c1 := (hC2.cell (b := H) (o := 1) hsH (fun h => Nat.lt_irrefl _ (hpH _ h))).trans c1
    clear HW hW2 hG2 hC2
    go_wp2_with fail
    refine (ref_short a L.length cap L n w2 hB2 (by omega)).mono ?_
    rintro e w3 ⟨v3, rfl, ho3, hb3⟩
    go_wp2_with fail
    go_ret
    exact PutPost.of hlp hP0 hb3 ho3 (by simp [be_length])
  have h2 : (kind == 2) = false := by rw [beq_eq_false_iff_ne]; exact h2
  by_cases h3 : kind = 3
  · subst h3
    have HW := Lib.hid (wlong_any B p N g L w1 hW1 (by omega))
    go_wp2_with fail
    refine HW.out.mono ?_
    rintro e w2 ⟨rfl, hP⟩
    have hP0 : WPost w B p g (L ++ be N 8) w2 := WPost.trans hC0 (.inl rfl) hP
    obtain ⟨g2, hW2, hC2, hG2⟩ := hP
    have hB2 := bs_chgS hC2 hB1 HAP.out
    have hT2 := bs_chgS hC2 hT1 HYP.out
    have c1 := (hC2.cell (b := H) (o := 1) hsH (fun h => Nat.lt_irrefl _ (hpH _ h))).trans c1
    clear HW hW2 hG2 hC2
    go_wp2_with fail
    refine (ref_long a L.length cap L N w2 hB2 (by omega)).mono ?_
    rintro e w3 ⟨v3, rfl, ho3, hb3⟩
    go_wp2_with fail
    go_ret
    exact PutPost.of hlp hP0 hb3 ho3 (by simp [be_length])
  have h3 : (kind == 3) = false := by rw [beq_eq_false_iff_ne]; exact h3
  by_cases h4 : kind = 4
  · subst h4
    have HW := Lib.hid (wflag_any B p f g L w1 hW1 (by omega))
    go_wp2_with fail
    refine HW.out.mono ?_
    rintro e w2 ⟨rfl, hP⟩
    have hP0 : WPost w B p g (L ++ [fb f]) w2 := WPost.trans hC0 (.inl rfl) hP
    obtain ⟨g2, hW2, hC2, hG2⟩ := hP
    have hB2 := bs_chgS hC2 hB1 HAP.out
    have hT2 := bs_chgS hC2 hT1 HYP.out
    have c1 := (hC2.cell (b := H) (o := 1) hsH (fun h => Nat.lt_irrefl _ (hpH _ h))).trans c1
    clear HW hW2 hG2 hC2
    go_wp2_with fail
    refine (ref_flag a L.length cap L f w2 hB2 (by omega)).mono ?_
    rintro e w3 ⟨v3, rfl, ho3, hb3⟩
    go_wp2_with fail
    go_ret
    exact PutPost.of hlp hP0 hb3 ho3 (by simp)
  have h4 : (kind == 4) = false := by rw [beq_eq_false_iff_ne]; exact h4
  by_cases h5 : kind = 5
  · subst h5
    have HW := Lib.hid (wbytes_any B p g L ab m cb zs w1 hW1 hT1 HYP.out (by omega))
    go_wp2_with fail
    refine HW.out.mono ?_
    rintro e w2 ⟨rfl, hP⟩
    have hP0 : WPost w B p g (L ++ lenBytes zs) w2 := WPost.trans hC0 (.inl rfl) hP
    obtain ⟨g2, hW2, hC2, hG2⟩ := hP
    have hB2 := bs_chgS hC2 hB1 HAP.out
    have hT2 := bs_chgS hC2 hT1 HYP.out
    have c1 := (hC2.cell (b := H) (o := 1) hsH (fun h => Nat.lt_irrefl _ (hpH _ h))).trans c1
    clear HW hW2 hG2 hC2
    go_wp2_with fail
    refine (ref_bytes a L.length cap L ab m cb zs w2 hB2 hT2 (by omega)).mono ?_
    rintro e w3 ⟨v3, rfl, ho3, hb3⟩
    go_wp2_with fail
    go_ret
    exact PutPost.of hlp hP0 hb3 ho3 (by have := lenBytes_le' zs; simp only [List.length_append]; omega)
  have h5 : (kind == 5) = false := by rw [beq_eq_false_iff_ne]; exact h5
  have HW := Lib.hid (wraw_any B p g L ab m cb zs w1 hW1 hT1 (by omega))
  go_wp2_with fail
  refine HW.out.mono ?_
  rintro e w2 ⟨rfl, hP⟩
  have hP0 : WPost w B p g (L ++ zs) w2 := WPost.trans hC0 (.inl rfl) hP
  obtain ⟨g2, hW2, hC2, hG2⟩ := hP
  have hB2 := bs_chgS hC2 hB1 HAP.out
  have hT2 := bs_chgS hC2 hT1 HYP.out
  clear HW hW2 hG2 hC2
  have hO := Own.empty w2
  have hB2a := hB2.alloc (.cells #[] TB)
  go_wp2_with (at_builtin; refine wpList_append_bytes rfl _ _ rfl (w2.heap.size) _ [] rfl hO a L.length cap L rfl hB2a ?h3 (by simp) ?hk)
  case h3 => simp; omega
  intro v3 w3 ho3 hg3 _
  have hE3 := ((Ext.refl w2).alloc (.cells #[] TB)).grown hg3 hO.blk
  have hT3 := hT2.below hE3.1
  clear hO hB2a hg3
  go_wp2_with (at_builtin; refine wpList_append_bytes rfl _ _ rfl (w2.heap.size) v3 L rfl ho3 ab m cb zs rfl hT3 ?g3 ?g4 ?gk)
  case g3 => omega
  case g4 => exact hE3.2
  intro v4 w4 ho4 hg4 _
  have hE4 := hE3.grown hg4 ho3.blk
  clear ho3 hg4 hE3
  go_wp2_with fail
  go_ret
  exact PutPost.of hlp hP0 hE4.1 ho4 (by rw [List.length_append]; omega)
end Go.Proofs.Ytmedamofmlkccaa
